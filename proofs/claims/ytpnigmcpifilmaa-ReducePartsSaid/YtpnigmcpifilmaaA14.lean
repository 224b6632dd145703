/- Plain law: the algebra of joined shapes and of stretching. -/
import Derived.Test.YtpnigmcpifilmaaA8
namespace Go.Proofs.Ytpnigmcpifilmaa.P
open Go.RowKit Go.Proofs.YtpnigmcpifilmaaW.PrintWords Go.Proofs.YtpnigmcpifilmaaW.PrintLast Go.Proofs.YtpnigmcpifilmaaW.PrintMore
set_option linter.unusedVariables false
set_option linter.unusedSimpArgs false
/-! the algebra of joined shapes -/
theorem sideF_rev (s : List Int) (i : Nat) : sideF s i = s.reverse.getD i 1 := by
  unfold sideF
  split
  · rename_i h
    rw [List.getD_eq_getElem?_getD, List.getD_eq_getElem?_getD, List.getElem?_reverse h]
  · rename_i h
    rw [List.getD_eq_getElem?_getD, List.getElem?_eq_none (by simpa using h)]; rfl
theorem side_ext (a b : List Int) (hl : a.length = b.length) (h : ∀ i, i < a.length → sideF a i = sideF b i) : a = b := by
  have : a.reverse = b.reverse := by
    apply List.ext_getElem?
    intro i
    by_cases hi : i < a.length
    · have := h i hi
      rw [sideF_rev, sideF_rev, List.getD_eq_getElem?_getD, List.getD_eq_getElem?_getD, List.getElem?_eq_getElem (show i < a.reverse.length by simpa using hi), List.getElem?_eq_getElem (show i < b.reverse.length by simp; omega)] at this
      rw [List.getElem?_eq_getElem (show i < a.reverse.length by simpa using hi), List.getElem?_eq_getElem (show i < b.reverse.length by simp; omega)]
      simpa using this
    · rw [List.getElem?_eq_none (by simp; omega), List.getElem?_eq_none (by simp; omega)]
  have h2 := congrArg List.reverse this
  simpa using h2
theorem side_over (s : List Int) (i : Nat) (h : s.length ≤ i) : sideF s i = 1 := by unfold sideF; rw [if_neg (by omega)]
theorem join_side (a b : List Int) (i : Nat) : sideF (joinL a b) i = max (sideF a i) (sideF b i) := by
  by_cases h : i < joinN a b
  · have := join_at a b i h
    unfold sideF
    rw [if_pos (by rw [joinL_length]; exact h)]
    rw [List.getD_eq_getElem?_getD] at this ⊢
    have hl : (joinL a b).length - 1 - i < (joinL a b).length := by rw [joinL_length]; omega
    rw [List.getElem?_eq_getElem hl] at this ⊢
    exact this
  · have h1 : a.length ≤ i := by unfold joinN at h; omega
    have h2 : b.length ≤ i := by unfold joinN at h; omega
    rw [side_over _ _ (by rw [joinL_length]; omega), side_over _ _ h1, side_over _ _ h2]; rfl
theorem side_pos {s : List Int} (h : shapeOk s = true) (i : Nat) : 1 ≤ sideF s i := by
  by_cases hi : i < s.length
  · rw [sideF_rev]; exact (side_mem s i (shapeOk_bd h).2.1 hi).1
  · rw [side_over _ _ (by omega)]; omega
theorem joinOk_iff (a b : List Int) : joinOk a b = true ↔ shapeOk a = true ∧ shapeOk b = true ∧ (∀ i, fitB (sideF a i) (sideF b i) = true) ∧ shapeOk (joinL a b) = true := by
  simp only [joinOk, Bool.and_eq_true, List.all_eq_true, List.mem_range]
  constructor
  · rintro ⟨⟨⟨h1, h2⟩, h3⟩, h4⟩
    refine ⟨h1, h2, fun i => ?_, h4⟩
    by_cases h : i < joinN a b
    · exact h3 i h
    · rw [side_over a i (by unfold joinN at h; omega)]; simp [fitB]
  · rintro ⟨h1, h2, h3, h4⟩
    exact ⟨⟨⟨h1, h2⟩, fun i _ => h3 i⟩, h4⟩
theorem fitB_iff (x y : Int) : fitB x y = true ↔ x = y ∨ x = 1 ∨ y = 1 := by simp [fitB, or_assoc]
theorem join_comm (a b : List Int) : joinL a b = joinL b a := by
  refine side_ext _ _ (by rw [joinL_length, joinL_length]; unfold joinN; omega) (fun i _ => ?_)
  rw [join_side, join_side]; omega
theorem joinOk_comm (a b : List Int) : joinOk a b = joinOk b a := by
  rw [Bool.eq_iff_iff, joinOk_iff, joinOk_iff, join_comm b a]
  constructor
  · rintro ⟨h1, h2, h3, h4⟩; exact ⟨h2, h1, fun i => by have := h3 i; rw [fitB_iff] at *; omega, h4⟩
  · rintro ⟨h1, h2, h3, h4⟩; exact ⟨h2, h1, fun i => by have := h3 i; rw [fitB_iff] at *; omega, h4⟩
theorem join_self (a : List Int) : joinL a a = a := by
  refine side_ext _ _ (by rw [joinL_length]; unfold joinN; omega) (fun i _ => ?_)
  rw [join_side]; omega
theorem joinOk_self {a : List Int} (h : shapeOk a = true) : joinOk a a = true := by
  rw [joinOk_iff, join_self]
  exact ⟨h, h, fun i => by rw [fitB_iff]; omega, h⟩
theorem join_assoc (a b c : List Int) : joinL (joinL a b) c = joinL a (joinL b c) := by
  refine side_ext _ _ (by rw [joinL_length, joinL_length]; unfold joinN; rw [joinL_length, joinL_length]; unfold joinN; omega) (fun i _ => ?_)
  rw [join_side, join_side, join_side, join_side]; omega
theorem join_left (a b : List Int) : joinL a (joinL a b) = joinL a b := by rw [← join_assoc, join_self]
theorem joinOk_left {a b : List Int} (h : joinOk a b = true) : joinOk a (joinL a b) = true := by
  rw [joinOk_iff] at h ⊢
  obtain ⟨h1, h2, h3, h4⟩ := h
  rw [join_left]
  refine ⟨h1, h4, fun i => ?_, h4⟩
  have := h3 i
  have := side_pos h1 i
  have := side_pos h2 i
  rw [join_side]
  rw [fitB_iff] at *; omega
theorem fits_join {a b : List Int} (h : joinOk a b = true) : fitsS a (joinL a b) = true := by
  unfold fitsS; rw [joinOk_left h, join_left]; simp
theorem fits_join' {a b : List Int} (h : joinOk a b = true) : fitsS b (joinL a b) = true := by
  rw [join_comm]; exact fits_join (by rw [joinOk_comm]; exact h)
theorem fits_self {a : List Int} (h : shapeOk a = true) : fitsS a a = true := by
  unfold fitsS; rw [joinOk_self h, join_self]; simp
theorem fitR_of : ∀ (rs rg : List Int), rs.length ≤ rg.length → (∀ k, k < rs.length → rs.getD k 1 = 1 ∨ rs.getD k 1 = rg.getD k 1) → fitR rs rg
  | [], _, _, _ => trivial
  | a :: rs, [], h, _ => by simp at h
  | a :: rs, g :: rg, h, hk => ⟨by simpa using hk 0 (by simp), fitR_of rs rg (by simpa using h) (fun k hl => by have := hk (k + 1) (by simpa using hl); simpa using this)⟩
theorem fits_parts {s g : List Int} (h : fitsS s g = true) : shapeOk s = true ∧ shapeOk g = true ∧ s.length ≤ g.length ∧ fitR s.reverse g.reverse := by
  simp only [fitsS, Bool.and_eq_true, decide_eq_true_eq] at h
  obtain ⟨h1, h2⟩ := h
  rw [joinOk_iff] at h1
  obtain ⟨a1, a2, a3, a4⟩ := h1
  have hl : s.length ≤ g.length := by
    have := joinL_length s g
    rw [h2] at this
    unfold joinN at this; omega
  refine ⟨a1, a2, hl, fitR_of _ _ (by simpa using hl) (fun k hk => ?_)⟩
  rw [← sideF_rev, ← sideF_rev]
  have e := join_side s g k
  rw [h2] at e
  have := a3 k
  have := side_pos a1 k
  have := side_pos a2 k
  rw [fitB_iff] at *; omega
/-! stretching twice is stretching once -/
theorem fromR_self : ∀ (rg : List Int) (p : Int), rg.all sideOk = true → 0 ≤ p → p < prod rg → fromR rg rg p = p
  | [], p, _, h0, h1 => by simp [prod] at h1; simp [fromR]; omega
  | g :: rg, p, ha, h0, h1 => by
    simp only [List.all_cons, Bool.and_eq_true] at ha
    have g1 : 1 ≤ g := by have := ha.1; simp only [sideOk, Bool.and_eq_true, decide_eq_true_eq] at this; omega
    have hd : p / g < prod rg := by rw [Int.ediv_lt_iff_lt_mul (by omega)]; simp only [prod] at h1; rw [Int.mul_comm]; exact h1
    rw [fromR, fromR_self rg (p / g) ha.2 (Int.ediv_nonneg h0 (by omega)) hd]
    have := Int.emod_add_mul_ediv p g
    split
    · omega
    · have : g = 1 := by omega
      subst this
      rw [Int.emod_one] at *
      omega
theorem fromR_trans : ∀ (ra rm rg : List Int) (p : Int), fitR ra rm → fitR rm rg → rm.all sideOk = true → rg.all sideOk = true → 0 ≤ p → fromR ra rm (fromR rm rg p) = fromR ra rg p
  | [], rm, rg, p, _, _, _, _, _ => by cases rm <;> cases rg <;> simp [fromR]
  | a :: ra, [], rg, p, h, _, _, _, _ => h.elim
  | a :: ra, m :: rm, [], p, _, h, _, _, _ => h.elim
  | a :: ra, m :: rm, g :: rg, p, h1, h2, hm, hg, hp => by
    simp only [List.all_cons, Bool.and_eq_true] at hm hg
    have m1 : 1 ≤ m := by have := hm.1; simp only [sideOk, Bool.and_eq_true, decide_eq_true_eq] at this; omega
    have g1 : 1 ≤ g := by have := hg.1; simp only [sideOk, Bool.and_eq_true, decide_eq_true_eq] at this; omega
    have ih := fromR_trans ra rm rg (p / g) h1.2 h2.2 hm.2 hg.2 (Int.ediv_nonneg hp (by omega))
    obtain ⟨q, hq⟩ : ∃ q, fromR rm rg (p / g) = q := ⟨_, rfl⟩
    rw [hq] at ih
    simp only [fromR, hq]
    have e1 := Int.emod_nonneg p (show g ≠ 0 by omega)
    have e2 := Int.emod_lt_of_pos p (show 0 < g by omega)
    by_cases hm1 : 1 < m
    · have : m = g := by rcases h2.1 with h | h <;> omega
      subst this
      rw [if_pos hm1]
      have d1 : (p % m + m * q) % m = p % m := by rw [Int.add_mul_emod_self_left, Int.emod_emod_of_dvd _ (Int.dvd_refl m)]
      have d2 : (p % m + m * q) / m = q := by rw [Int.add_mul_ediv_left _ _ (by omega), Int.ediv_eq_zero_of_lt e1 e2]; omega
      rw [d1, d2, ih]
    · have hm2 : m = 1 := by omega
      subst hm2
      have ha : a = 1 := by rcases h1.1 with h | h <;> omega
      subst ha
      simp only [show ¬ (1 : Int) < 1 by omega, if_false, Int.zero_add, Int.one_mul, Int.ediv_one]
      exact ih
theorem rd_map (f : Nat → Int) (n k : Nat) (h : k < n) : rd ((List.range n).map f) (k : Int) = f k := by
  unfold rd
  simp [List.getD_eq_getElem?_getD, h]
theorem spreadD_length (s d g : List Int) : (spreadD s d g).length = sizeS g := by simp [spreadD]
theorem spread_rd (s d g : List Int) (k : Nat) (h : k < sizeS g) : rd (spreadD s d g) (k : Int) = rd d (fromS s g k) := rd_map _ _ _ h
theorem fromS_self {g : List Int} (h : shapeOk g = true) (k : Nat) (hk : k < sizeS g) : fromS g g k = k := by
  have hb := shapeOk_bd h
  exact fromR_self g.reverse k (by rw [List.all_reverse]; exact hb.2.1) (by omega) (by rw [prod_rev]; omega)
theorem fromS_trans {a m g : List Int} (h1 : fitsS a m = true) (h2 : fitsS m g = true) (k : Nat) : fromS a m (fromS m g k) = fromS a g k := by
  obtain ⟨a1, a2, _, a3⟩ := fits_parts h1
  obtain ⟨b1, b2, _, b3⟩ := fits_parts h2
  exact fromR_trans _ _ _ _ a3 b3 (by rw [List.all_reverse]; exact (shapeOk_bd b1).2.1) (by rw [List.all_reverse]; exact (shapeOk_bd b2).2.1) (by omega)
theorem spread_self {g d : List Int} (h : tOk g d = true) : spreadD g d g = d := by
  simp only [tOk, Bool.and_eq_true, decide_eq_true_eq] at h
  apply List.ext_getElem?
  intro k
  by_cases hk : k < sizeS g
  · have e := spread_rd g d g k hk
    rw [fromS_self h.1 k hk] at e
    unfold rd at e
    simp only [Int.toNat_natCast, List.getD_eq_getElem?_getD] at e
    rw [List.getElem?_eq_getElem (show k < (spreadD g d g).length by rw [spreadD_length]; exact hk), List.getElem?_eq_getElem (show k < d.length by omega)] at e ⊢
    simpa using e
  · rw [List.getElem?_eq_none (by rw [spreadD_length]; omega), List.getElem?_eq_none (by omega)]
theorem spread_trans {a m g d : List Int} (h1 : fitsS a m = true) (h2 : fitsS m g = true) : spreadD m (spreadD a d m) g = spreadD a d g := by
  unfold spreadD
  apply List.map_congr_left
  intro k hk
  have hk' := List.mem_range.1 hk
  obtain ⟨b1, b2, _, b3⟩ := fits_parts h2
  have hl := fromS_lt m g (k : Int) b3 b1 b2 (by omega)
  obtain ⟨j, hj⟩ := Int.eq_ofNat_of_zero_le hl.1
  have e := fromS_trans h1 h2 k
  rw [hj] at e hl ⊢
  have := rd_map (fun (p : Nat) => rd d (fromS a m (p : Int))) (sizeS m) j (by omega)
  rw [this, e]
end Go.Proofs.Ytpnigmcpifilmaa.P
