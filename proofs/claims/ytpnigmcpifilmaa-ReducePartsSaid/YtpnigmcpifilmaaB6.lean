/- Plain laws of tensors that are stretched. -/
import Derived.Test.YtpnigmcpifilmaaB0
import Derived.Test.YtpnigmcpifilmaaB4
namespace Go.Proofs.Ytpnigmcpifilmaa.P
open Go.RowKit Go.Proofs.YtpnigmcpifilmaaW.PrintWords Go.Proofs.YtpnigmcpifilmaaW.PrintLast Go.Proofs.YtpnigmcpifilmaaW.PrintMore
set_option linter.unusedVariables false
theorem spreadT_inv {a1 a2 s S D : List Int} {E : Int} (h : spreadT a1 a2 s = ((S, D), E)) (he : E = 0) : tOk a1 a2 = true ∧ fitsS a1 s = true ∧ S = s ∧ D = spreadD a1 a2 s := by
  unfold spreadT at h
  split at h
  · split at h
    · simp only [Prod.mk.injEq] at h
      exact ⟨by assumption, by assumption, h.1.1.symm, h.1.2.symm⟩
    · simp only [Prod.mk.injEq] at h; omega
  · simp only [Prod.mk.injEq] at h; omega
theorem spreadT_allI {a1 a2 s S D : List Int} {E : Int} (hi : allI a2) (h : spreadT a1 a2 s = ((S, D), E)) : allI D := by
  unfold spreadT at h
  split at h
  · rename_i ht
    split at h
    · rename_i hf
      simp only [Prod.mk.injEq] at h
      rw [← h.1.2]
      intro x hx
      unfold spreadD at hx
      obtain ⟨k, hk, rfl⟩ := List.mem_map.1 hx
      have := spread_rdI hf ht hi k (List.mem_range.1 hk)
      rwa [spread_rd _ _ _ _ (List.mem_range.1 hk)] at this
    · simp only [Prod.mk.injEq] at h; rw [← h.1.2]; exact nil_allI
  · simp only [Prod.mk.injEq] at h; rw [← h.1.2]; exact nil_allI
/-- every place of the small tensor is met -/
theorem fromR_onto : ∀ (rs rg : List Int) (q : Int), rs.length ≤ rg.length → fitR rs rg → rs.all sideOk = true → rg.all sideOk = true → 0 ≤ q → q < prod rs → ∃ p, 0 ≤ p ∧ p < prod rg ∧ fromR rs rg p = q
  | [], rg, q, _, _, _, hg, h0, h1 => by
    have := (sides_bd rg hg).1
    simp [prod] at h1
    refine ⟨0, by omega, by omega, ?_⟩
    cases rg <;> simp [fromR] <;> omega
  | a :: rs, [], q, _, h, _, _, _, _ => h.elim
  | a :: rs, g :: rg, q, hl, h, ha, hg, h0, h1 => by
    simp only [List.all_cons, Bool.and_eq_true] at ha hg
    have a1 : 1 ≤ a := by have := ha.1; simp only [sideOk, Bool.and_eq_true, decide_eq_true_eq] at this; omega
    have g1 : 1 ≤ g := by have := hg.1; simp only [sideOk, Bool.and_eq_true, decide_eq_true_eq] at this; omega
    have hd : q / a < prod rs := by rw [Int.ediv_lt_iff_lt_mul (by omega)]; simp only [prod] at h1; rw [Int.mul_comm]; exact h1
    obtain ⟨p, p0, p1, p2⟩ := fromR_onto rs rg (q / a) (by simpa using hl) h.2 ha.2 hg.2 (Int.ediv_nonneg h0 (by omega)) hd
    have e := Int.emod_add_mul_ediv q a
    have m0 := Int.emod_nonneg q (show a ≠ 0 by omega)
    have m1 := Int.emod_lt_of_pos q (show 0 < a by omega)
    have up : ∀ r : Int, 0 ≤ r → r < g → 0 ≤ r + g * p ∧ r + g * p < g * prod rg := by
      intro r hr0 hr1
      have k1 : 0 ≤ g * p := Int.mul_nonneg (by omega) p0
      have k2 : g * p ≤ g * (prod rg - 1) := Int.mul_le_mul_of_nonneg_left (by omega) (by omega)
      rw [Int.mul_sub, Int.mul_one] at k2
      omega
    have val : ∀ r : Int, 0 ≤ r → r < g → fromR (a :: rs) (g :: rg) (r + g * p) = (if 1 < a then r else 0) + a * (q / a) := by
      intro r hr0 hr1
      have d1 : (r + g * p) % g = r := by rw [Int.add_mul_emod_self_left, Int.emod_eq_of_lt hr0 hr1]
      have d2 : (r + g * p) / g = p := by rw [Int.add_mul_ediv_left _ _ (by omega), Int.ediv_eq_zero_of_lt hr0 hr1]; omega
      simp only [fromR]
      rw [d1, d2, p2]
    simp only [prod]
    by_cases ha1 : 1 < a
    · have hag : a = g := by rcases h.1 with h | h <;> omega
      refine ⟨q % a + g * p, (up _ m0 (by omega)).1, (up _ m0 (by omega)).2, ?_⟩
      rw [val _ m0 (by omega), if_pos ha1]; omega
    · have ha2 : a = 1 := by omega
      refine ⟨0 + g * p, (up 0 (by omega) (by omega)).1, (up 0 (by omega) (by omega)).2, ?_⟩
      rw [val 0 (by omega) (by omega), if_neg ha1]
      subst ha2; simp
theorem from_onto {a s : List Int} (hf : fitsS a s = true) (j : Nat) (hj : j < sizeS a) : ∃ k : Nat, k < sizeS s ∧ fromS a s k = (j : Int) := by
  obtain ⟨f1, f2, f3, f4⟩ := fits_parts hf
  have b1 := shapeOk_bd f1
  have b2 := shapeOk_bd f2
  obtain ⟨p, p0, p1, p2⟩ := fromR_onto a.reverse s.reverse (j : Int) (by simpa using f3) f4 (by rw [List.all_reverse]; exact b1.2.1) (by rw [List.all_reverse]; exact b2.2.1) (by omega) (by rw [prod_rev]; omega)
  obtain ⟨k, rfl⟩ := Int.eq_ofNat_of_zero_le p0
  rw [prod_rev] at p1
  exact ⟨k, by omega, p2⟩
theorem errG_const {G : Nat → Int × Int} {c : Int} (h : ∀ k, (G k).2 = 0 ∨ (G k).2 = c) : ∀ n, errG G n = 0 ∨ errG G n = c
  | 0 => .inl rfl
  | n + 1 => by
    simp only [errG]
    split
    · exact h n
    · exact errG_const h n
theorem toldF_err (n : Int) (b : Bool) : (toldF n b).2 = 0 ∨ (toldF n b).2 = 10 := by cases b <;> simp [toldF]
theorem one_err {op : Int} {F : Int → Int × Int} (hF : oneF op = some F) : ∃ c : Int, ∀ x, (F x).2 = 0 ∨ (F x).2 = c := by
  unfold oneF at hF
  repeat' split at hF
  all_goals cases hF
  · exact ⟨10, fun x => toldF_err _ _⟩
  · exact ⟨0, fun x => .inl rfl⟩
  · refine ⟨10, fun x => ?_⟩
    unfold powF shiftF
    split
    · exact .inl rfl
    · exact toldF_err _ _
  · refine ⟨12, fun x => ?_⟩
    unfold sqrtF
    split
    · exact .inr rfl
    · exact .inl rfl
theorem spreads_two {op : Int} {a1 a2 b1 b2 S : List Int} (hj : joinOk a1 b1 = true) (hS : S = joinL a1 b1) (ta : tOk a1 a2 = true) (tb : tOk b1 b2 = true) :
    elemTwo op S (spreadD a1 a2 S) S (spreadD b1 b2 S) = elemTwo op a1 a2 b1 b2 := by
  have fa : fitsS a1 S = true := by rw [hS]; exact fits_join hj
  have hs := (fits_parts fa).2.1
  have t1 : tOk S (spreadD a1 a2 S) = true := by rw [tOk_iff]; exact ⟨hs, spreadD_length _ _ _⟩
  have t2 : tOk S (spreadD b1 b2 S) = true := by rw [tOk_iff]; exact ⟨hs, spreadD_length _ _ _⟩
  unfold elemTwo
  cases twoF op with
  | none => rfl
  | some F =>
    simp only [t1, t2, ta, tb, joinOk_self hs, hj, join_self, Bool.and_self, if_true]
    rw [← hS]
    have : twoG F S (spreadD a1 a2 S) S (spreadD b1 b2 S) S = twoG F a1 a2 b1 b2 S := by
      funext k; unfold twoG; rw [spread_self t1, spread_self t2]
    rw [this]
theorem spreads_one {op : Int} {a1 a2 S su du sv dv sl dl : List Int} {eu ev el : Int} (fa : fitsS a1 S = true) (ta : tOk a1 a2 = true)
    (hu : elemOne op a1 a2 = ((su, du), eu)) (hv : elemOne op S (spreadD a1 a2 S) = ((sv, dv), ev)) (hl : spreadT su du S = ((sl, dl), el)) :
    eu = ev ∧ (eu = 0 → el = 0 ∧ sameB sv dv sl dl = true) := by
  have hs := (fits_parts fa).2.1
  have t1 : tOk S (spreadD a1 a2 S) = true := by rw [tOk_iff]; exact ⟨hs, spreadD_length _ _ _⟩
  unfold elemOne at hu hv
  cases hF : oneF op with
  | none =>
    rw [hF] at hu hv
    simp only [Prod.mk.injEq] at hu hv
    exact ⟨by omega, fun h => by omega⟩
  | some F =>
    rw [hF] at hu hv
    simp only [ta, t1, if_true] at hu hv
    obtain ⟨c, hc⟩ := one_err hF
    have du' : ∀ k : Nat, k < sizeS S → ∃ j : Nat, j < sizeS a1 ∧ fromS a1 S k = (j : Int) ∧ rd (spreadD a1 a2 S) k = rd a2 j := fun k hk => by
      obtain ⟨j, hj, hj2⟩ := from_nat fa k
      exact ⟨j, hj2, hj, by rw [spread_rd _ _ _ _ hk, hj]⟩
    have hu2 : errG (fun k => F (rd a2 k)) (sizeS a1) = eu := congrArg (·.2) hu
    have hv2 : errG (fun k => F (rd (spreadD a1 a2 S) k)) (sizeS S) = ev := congrArg (·.2) hv
    have cu := errG_const (G := fun k : Nat => F (rd a2 k)) (c := c) (fun k => hc _) (sizeS a1)
    have cv := errG_const (G := fun k : Nat => F (rd (spreadD a1 a2 S) k)) (c := c) (fun k => hc _) (sizeS S)
    have iff1 : eu = 0 ↔ ev = 0 := by
      constructor
      · intro h
        rw [← hv2]
        apply errG_zero
        intro k hk
        obtain ⟨j, hj, _, hr⟩ := du' k hk
        simp only [hr]
        exact errG_all _ (hu2.trans h) j hj
      · intro h
        rw [← hu2]
        apply errG_zero
        intro j hj
        obtain ⟨k, hk, hk2⟩ := from_onto fa j hj
        have := errG_all _ (hv2.trans h) k hk
        simp only [spread_rd _ _ _ _ hk, hk2] at this
        exact this
    rw [hu2] at cu
    rw [hv2] at cv
    refine ⟨by rcases cu with h | h <;> rcases cv with h' | h' <;> omega, fun h0 => ?_⟩
    obtain ⟨s1, d1, _⟩ := eachR_inv hu h0
    obtain ⟨s2, d2, _⟩ := eachR_inv hv (iff1.1 h0)
    subst s1 s2
    have tu : tOk su du = true := by rw [tOk_iff]; exact ⟨(fits_parts fa).1, by rw [d1, dataG_length]⟩
    unfold spreadT at hl
    rw [if_pos tu, if_pos fa] at hl
    simp only [Prod.mk.injEq] at hl
    obtain ⟨⟨rfl, hd⟩, rfl⟩ := hl
    refine ⟨rfl, ?_⟩
    have : dv = dl := by
      rw [← hd]
      refine list_rd _ _ (by rw [d2, dataG_length, spreadD_length]) (fun k hk => ?_)
      have hk' : k < sizeS sv := by rw [d2, dataG_length] at hk; exact hk
      obtain ⟨j, hj, hj2, hr⟩ := du' k hk'
      rw [spread_rd _ _ _ _ hk', hj2, d1, rd_dataG _ _ _ hj, d2, rd_dataG _ _ _ hk', hr]
    rw [this]; simp [sameB]
end Go.Proofs.Ytpnigmcpifilmaa.P
