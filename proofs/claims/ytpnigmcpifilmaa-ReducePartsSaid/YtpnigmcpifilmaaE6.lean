/- Plain laws of a side's parts. -/
import Derived.Test.YtpnigmcpifilmaaE4
import Derived.Test.YtpnigmcpifilmaaD10
/- Plain laws of a side's parts. -/
namespace Go.Proofs.Ytpnigmcpifilmaa.P
open Go.RowKit Go.Proofs.YtpnigmcpifilmaaW.PrintWords Go.Proofs.YtpnigmcpifilmaaW.PrintLast Go.Proofs.YtpnigmcpifilmaaW.PrintMore
set_option linter.unusedVariables false
theorem set_take (s : List Int) (a : Nat) (n : Int) : (s.set a n).take a = s.take a := by
  apply List.ext_getElem?; intro i; simp only [List.getElem?_take, List.getElem?_set]
  by_cases h : i < a
  · simp [h, show ¬ a = i by omega]
  · simp [h]
theorem set_drop (s : List Int) (a : Nat) (n : Int) : (s.set a n).drop (a + 1) = s.drop (a + 1) := by
  apply List.ext_getElem?; intro i; simp only [List.getElem?_drop, List.getElem?_set]
  simp [show ¬ a = a + 1 + i by omega]
theorem set_erase (s : List Int) (a : Nat) (n : Int) : (s.set a n).eraseIdx a = s.eraseIdx a := by
  rw [List.eraseIdx_eq_take_drop_succ, List.eraseIdx_eq_take_drop_succ, set_take, set_drop]
theorem set_bh (s : List Int) (a : Nat) (n : Int) : bhOf (s.set a n) a = bhOf s a := by unfold bhOf; rw [set_drop]
theorem set_sd {s : List Int} {a : Nat} (n : Int) (ha : a < s.length) : sdOf (s.set a n) a = n.toNat := by unfold sdOf; rw [rd_set _ _ _ _ ha, if_pos rfl]
theorem du {A R A' R' b : Int} (h : A * b + R = A' * b + R') (h0 : 0 ≤ R) (h1 : R < b) (h2 : 0 ≤ R') (h3 : R' < b) : A = A' ∧ R = R' := by
  rcases Int.lt_trichotomy A A' with e | e | e
  · have q : 1 * b ≤ (A' - A) * b := Int.mul_le_mul_of_nonneg_right (by omega) (by omega)
    rw [Int.sub_mul] at q; omega
  · subst e; exact ⟨rfl, by omega⟩
  · have q : 1 * b ≤ (A - A') * b := Int.mul_le_mul_of_nonneg_right (by omega) (by omega)
    rw [Int.sub_mul] at q; omega
/-- A place's first numbers, as a place. -/
def fstP (s : List Int) (q : Int) (k : Nat) : Int := plR s.reverse (s.length - k) q
theorem fstP_all (s : List Int) (q : Int) : fstP s q s.length = q := by unfold fstP; rw [Nat.sub_self, plR_zero]
theorem fstP_step {s : List Int} {q : Int} (hs : shapeOk s = true) {k : Nat} (hk : k < s.length) : fstP s q (k + 1) = fstP s q k * rd s (k : Nat) + rd (idxL s q) (k : Nat) ∧ fstP s q k = fstP s q (k + 1) / rd s (k : Nat) := by
  obtain ⟨m, hm⟩ : ∃ m, m = s.length - 1 - k := ⟨_, rfl⟩
  have hk2 : k = s.length - 1 - m := by omega
  have e := idx_at s q m (by omega)
  rw [idxL_length, ← hk2] at e
  have e2 := rev_at s m (by omega)
  rw [← hk2] at e2
  have e3 : rd (idxL s q) k = (idxL s q).getD k 0 := by simp [rd]
  have e4 := plR_succ s.reverse m q (by simp; omega)
  rw [← e2] at e e4
  have f1 : fstP s q (k + 1) = plR s.reverse m q := by unfold fstP; rw [show s.length - (k + 1) = m by omega]
  have f2 : fstP s q k = plR s.reverse (m + 1) q := by unfold fstP; rw [show s.length - k = m + 1 by omega]
  rw [f1, f2, e3, e, e4]
  refine ⟨?_, rfl⟩
  rw [Int.mul_comm]
  exact (Int.mul_ediv_add_emod _ _).symm
theorem fstP_lt {s : List Int} {q : Int} (hs : shapeOk s = true) (h0 : 0 ≤ q) (h1 : q < prod s) : ∀ (j : Nat), j ≤ s.length → 0 ≤ fstP s q (s.length - j) ∧ fstP s q (s.length - j) < prod (s.take (s.length - j))
  | 0, _ => by rw [Nat.sub_zero, fstP_all, List.take_length]; exact ⟨h0, h1⟩
  | j + 1, hj => by
    obtain ⟨a1, a2⟩ := fstP_lt hs h0 h1 j (by omega)
    obtain ⟨k, hk⟩ : ∃ k, k = s.length - (j + 1) := ⟨_, rfl⟩
    rw [show s.length - j = k + 1 by omega] at a1 a2
    rw [← hk]
    have hkl : k < s.length := by omega
    have e := (fstP_step (q := q) hs hkl).2
    have sb := side_bd hs hkl
    have ts : prod (s.take (k + 1)) = prod (s.take k) * rd s (k : Nat) := by rw [take_rd s k hkl, prod_append]; simp [prod]
    rw [ts] at a2
    rw [e]
    exact ⟨Int.ediv_nonneg a1 (by omega), Int.ediv_lt_of_lt_mul (by omega) a2⟩
theorem fstP_zero {s : List Int} {q : Int} (hs : shapeOk s = true) (h0 : 0 ≤ q) (h1 : q < prod s) : fstP s q 0 = 0 := by
  have := fstP_lt hs h0 h1 s.length (Nat.le_refl _)
  rw [Nat.sub_self] at this
  simp only [List.take_zero, prod] at this
  omega
section
variable {s : List Int} {a : Nat} {f m : Int} (hs' : shapeOk (s.set a m) = true) (ha : a < s.length) (q : Nat) (hq : (q : Int) < prod (s.set a m))
include hs' ha hq
theorem sh_ahead : ∀ k, k ≤ a → plcK s (shIx (s.set a m) a f q) k = fstP (s.set a m) q k
  | 0, _ => (fstP_zero hs' (by omega) hq).symm
  | k + 1, hk => by
    have ih := sh_ahead k (by omega)
    have e := (fstP_step (q := (q : Int)) hs' (k := k) (by rw [List.length_set]; omega)).1
    rw [rd_set _ _ _ _ ha, if_neg (show ¬ k = a by omega)] at e
    simp only [plcK]
    rw [ih, e]
    congr 1
    unfold shIx
    rw [rd_set _ _ _ _ (by rw [idxL_length, List.length_set]; exact ha), if_neg (show ¬ k = a by omega)]
theorem sh_behind : ∀ j, a + 1 + j ≤ s.length → ∃ R, 0 ≤ R ∧ R < prod ((s.drop (a + 1)).take j) ∧ fstP (s.set a m) q (a + 1 + j) = fstP (s.set a m) q (a + 1) * prod ((s.drop (a + 1)).take j) + R ∧
      plcK s (shIx (s.set a m) a f q) (a + 1 + j) = (fstP (s.set a m) q a * rd s (a : Nat) + rd (idxL (s.set a m) (q : Int)) (a : Nat) + f) * prod ((s.drop (a + 1)).take j) + R
  | 0, _ => by
    refine ⟨0, by omega, by simp [prod], by simp [prod], ?_⟩
    simp only [plcK, List.take_zero, prod, Int.mul_one, Int.add_zero]
    rw [sh_ahead hs' ha q hq a (Nat.le_refl _)]
    unfold shIx
    rw [rd_set _ _ _ _ (by rw [idxL_length, List.length_set]; exact ha), if_pos rfl]
    omega
  | j + 1, hj => by
    obtain ⟨R, r0, r1, r2, r3⟩ := sh_behind j (by omega)
    have hk : a + 1 + j < s.length := by omega
    have e := (fstP_step (q := (q : Int)) hs' (k := a + 1 + j) (by rw [List.length_set]; omega)).1
    rw [rd_set _ _ _ _ ha, if_neg (show ¬ a + 1 + j = a by omega)] at e
    have hlt := idx_lt (p := (q : Int)) hs' (k := a + 1 + j) (by rw [List.length_set]; omega)
    rw [rd_set _ _ _ _ ha, if_neg (show ¬ a + 1 + j = a by omega)] at hlt
    have hx : rd (shIx (s.set a m) a f q) ((a + 1 + j : Nat) : Int) = rd (idxL (s.set a m) (q : Int)) ((a + 1 + j : Nat) : Int) := by
      unfold shIx
      rw [rd_set _ _ _ _ (by rw [idxL_length, List.length_set]; exact ha), if_neg (show ¬ a + 1 + j = a by omega)]
    have ts : prod ((s.drop (a + 1)).take (j + 1)) = prod ((s.drop (a + 1)).take j) * rd s ((a + 1 + j : Nat) : Int) := by
      have hr : rd (s.drop (a + 1)) (j : Nat) = rd s ((a + 1 + j : Nat) : Int) := by
        unfold rd; simp only [Int.toNat_natCast, List.getD_eq_getElem?_getD, List.getElem?_drop]
      rw [take_rd (s.drop (a + 1)) j (by simp; omega), prod_append, hr]
      simp only [prod, Int.mul_one]
    obtain ⟨B, hB⟩ : ∃ B, prod ((s.drop (a + 1)).take j) = B := ⟨_, rfl⟩
    obtain ⟨y, hy⟩ : ∃ y, rd s ((a + 1 + j : Nat) : Int) = y := ⟨_, rfl⟩
    obtain ⟨x, hxx⟩ : ∃ x, rd (idxL (s.set a m) (q : Int)) ((a + 1 + j : Nat) : Int) = x := ⟨_, rfl⟩
    rw [hB] at r1 r2 r3 ts
    rw [hy] at e hlt ts
    rw [hxx] at e hlt hx
    rw [ts]
    refine ⟨R * y + x, ?_, ?_, ?_, ?_⟩
    · have := Int.mul_nonneg r0 (show 0 ≤ y by omega); omega
    · have h5 : (R + 1) * y ≤ B * y := Int.mul_le_mul_of_nonneg_right (by omega) (by omega)
      rw [Int.add_mul] at h5; omega
    · rw [show a + 1 + (j + 1) = a + 1 + j + 1 by omega, e, r2, Int.add_mul, Int.mul_assoc, Int.add_assoc]
    · rw [show a + 1 + (j + 1) = a + 1 + j + 1 by omega]
      simp only [plcK]
      rw [r3, hx, hy, Int.add_mul, Int.mul_assoc, Int.add_assoc]
end
/-- A part's number is the tensor's, so many further on. -/
theorem part_at {s d : List Int} {a : Nat} {f m : Int} (hs : shapeOk s = true) (ha : a < s.length) (hf : 0 ≤ f) (hm : 1 ≤ m) (hfm : f + m ≤ rd s (a : Nat)) (p i : Nat) (hp : p < sizeS (s.take a) * bhOf s a) (hi : i < m.toNat) :
    rd (partD s d a f m) (laneAt m.toNat (bhOf s a) p i : Nat) = rd d (laneAt (sdOf s a) (bhOf s a) p (i + f.toNat) : Nat) := by
  have hs' := set_ok hs ha hm (by omega)
  have ha' : a < (s.set a m).length := by rw [List.length_set]; exact ha
  obtain ⟨e0, e1, e2, e3, e4⟩ := erase_ok hs' ha'
  rw [set_take, set_bh, set_sd _ ha] at e2
  rw [set_bh] at e3
  have hlt := lane_lt hp hi e3
  rw [← e2] at hlt
  unfold partD numsTo
  rw [rd_range _ _ _ hlt]
  unfold partN
  congr 1
  obtain ⟨q, hq⟩ : ∃ q, laneAt m.toNat (bhOf s a) p i = q := ⟨_, rfl⟩
  rw [hq] at hlt ⊢
  have hqp : (q : Int) < prod (s.set a m) := by rw [← sizeS_eq hs']; omega
  obtain ⟨R, r0, r1, r2, r3⟩ := sh_behind (f := f) hs' ha q hqp (s.length - (a + 1)) (by omega)
  rw [show a + 1 + (s.length - (a + 1)) = s.length by omega] at r2 r3
  rw [List.take_of_length_le (by simp), ← sizeS_eq (cut_ok hs (a + 1)).2] at r1 r2 r3
  change R < ((bhOf s a : Nat) : Int) at r1
  change _ = _ * ((bhOf s a : Nat) : Int) + R at r2
  change _ = _ * ((bhOf s a : Nat) : Int) + R at r3
  have hfa := fstP_all (s.set a m) (q : Int)
  rw [List.length_set] at hfa
  rw [hfa] at r2
  have st := (fstP_step (q := (q : Int)) hs' ha').1
  have xl := idx_lt (p := (q : Int)) hs' ha'
  rw [rd_set _ _ _ _ ha, if_pos rfl] at st xl
  -- the place's parts
  have hb1 : 1 ≤ bhOf s a := e3
  have u1 := du (A := ((p / bhOf s a * m.toNat + i : Nat) : Int)) (R := ((p % bhOf s a : Nat) : Int)) (A' := fstP (s.set a m) q (a + 1)) (R' := R) (b := ((bhOf s a : Nat) : Int)) (by rw [← r2, ← hq]; unfold laneAt; push_cast; rfl) (by omega) (by have := Nat.mod_lt p (show 0 < bhOf s a by omega); omega) r0 r1
  have u2 := du (A := ((p / bhOf s a : Nat) : Int)) (R := (i : Int)) (A' := fstP (s.set a m) q a) (R' := rd (idxL (s.set a m) (q : Int)) (a : Nat)) (b := m) (by rw [← st, ← u1.1]; push_cast; rw [show ((m.toNat : Nat) : Int) = m by omega]) (by omega) (by omega) xl.1 xl.2
  rw [r3, ← u2.1, ← u2.2, ← u1.2]
  unfold laneAt sdOf
  have sb := side_bd hs ha
  push_cast
  rw [show ((rd s (a : Nat)).toNat : Int) = rd s (a : Nat) by omega, show ((f.toNat : Nat) : Int) = f by omega, Int.add_assoc]
end Go.Proofs.Ytpnigmcpifilmaa.P
/- The sum of a side is that of its parts' sums; its greatest number the greater one of theirs. -/
namespace Go.Proofs.Ytpnigmcpifilmaa.P
open Go.RowKit Go.Proofs.YtpnigmcpifilmaaW.PrintWords Go.Proofs.YtpnigmcpifilmaaW.PrintLast Go.Proofs.YtpnigmcpifilmaaW.PrintMore
set_option linter.unusedVariables false
theorem sumI_split (X : Nat → Int) (m : Nat) : ∀ n, sumI X (m + n) = sumI X m + sumI (fun i => X (i + m)) n
  | 0 => by simp [sumI]
  | n + 1 => by
    rw [show m + (n + 1) = m + n + 1 by omega]
    simp only [sumI]
    rw [sumI_split X m n, show n + m = m + n by omega]; omega
theorem rd_bdd {d : List Int} {B : Int} (hB : 0 ≤ B) (h : ∀ k : Nat, k < d.length → -B ≤ rd d k ∧ rd d k ≤ B) (j : Int) : -B ≤ rd d j ∧ rd d j ≤ B := by
  by_cases hj : j.toNat < d.length
  · have e : rd d j = rd d (j.toNat : Nat) := by unfold rd; rw [Int.toNat_natCast]
    rw [e]; exact h j.toNat hj
  · have : rd d j = 0 := by simp [rd, List.getD_eq_getElem?_getD, List.getElem?_eq_none (show d.length ≤ j.toNat by omega)]
    omega
theorem addF_small {a b : Int} (h : -9223372036854775808 ≤ a + b ∧ a + b ≤ 9223372036854775807) : addF a b = (a + b, 0) := by
  unfold addF toldF
  rw [if_pos (by rw [decide_eq_true_eq]; omega)]
/-- One part: it is a tensor, each of its numbers is small, its sides are added, and its greatest numbers. -/
theorem part_one {s d : List Int} {a : Nat} {f m : Int} {B : Int} (hB : 0 ≤ B) (hb : B * 16 ≤ 9223372036854775807) (ht : tOk s d = true) (ha : a < s.length) (hf : 0 ≤ f) (hm : 1 ≤ m) (hfm : f + m ≤ rd s (a : Nat))
    (hd : ∀ k : Nat, k < d.length → -B ≤ rd d k ∧ rd d k ≤ B) :
    sumR (s.set a m) (partD s d a f m) (a : Nat) = ((s.eraseIdx a, (List.range (sizeS (s.eraseIdx a))).map fun p => sumI (fun i => rd d (laneAt (sdOf s a) (bhOf s a) p (i + f.toNat) : Nat)) m.toNat), 0) ∧
    ∃ D, maxR (s.set a m) (partD s d a f m) (a : Nat) = ((s.eraseIdx a, D), 0) ∧ D.length = sizeS (s.eraseIdx a) ∧ ∀ p, p < sizeS (s.eraseIdx a) →
      (∀ i, i < m.toNat → rd d (laneAt (sdOf s a) (bhOf s a) p (i + f.toNat) : Nat) ≤ rd D (p : Nat)) ∧ ∃ i, i < m.toNat ∧ rd D (p : Nat) = rd d (laneAt (sdOf s a) (bhOf s a) p (i + f.toNat) : Nat) := by
  have hs := ((tOk_iff _ _).1 ht).1
  have hs' := set_ok hs ha hm (by omega)
  have ha' : a < (s.set a m).length := by rw [List.length_set]; exact ha
  have ht' : tOk (s.set a m) (partD s d a f m) = true := by rw [tOk_iff]; exact ⟨hs', by unfold partD; rw [numsTo_len]⟩
  obtain ⟨e0, e1, e2, e3, e4⟩ := erase_ok hs ha
  have hd' : ∀ k : Nat, k < (partD s d a f m).length → -B ≤ rd (partD s d a f m) k ∧ rd (partD s d a f m) k ≤ B := fun k hk => by
    have hk' : k < sizeS (s.set a m) := by unfold partD at hk; rwa [numsTo_len] at hk
    unfold partD numsTo
    rw [rd_range _ _ _ hk']
    exact rd_bdd hB hd _
  have h1 := sum_small hB hb ht' ha' hd'
  obtain ⟨D, h2, h3, h4⟩ := max_any (s.set a m) (partD s d a f m) a ht' ha'
  rw [set_erase, set_sd _ ha, set_bh] at h1 h4
  rw [set_erase] at h2 h3
  have key : ∀ p i, p < sizeS (s.eraseIdx a) → i < m.toNat → rd (partD s d a f m) (laneAt m.toNat (bhOf s a) p i : Nat) = rd d (laneAt (sdOf s a) (bhOf s a) p (i + f.toNat) : Nat) :=
    fun p i hp hi => part_at hs ha hf hm hfm p i (by rw [← e1]; exact hp) hi
  refine ⟨?_, D, h2, h3, fun p hp => ?_⟩
  · rw [h1]
    congr 2
    exact List.map_congr_left (fun p hp => sumI_congr _ (fun i hi => key p i (List.mem_range.1 hp) hi))
  · obtain ⟨g1, i, hi, g2⟩ := h4 p hp
    exact ⟨fun i hi => by rw [← key p i hp hi]; exact g1 i hi, i, hi, by rw [← key p i hp hi]; exact g2⟩
theorem parts_law {s d : List Int} {a : Nat} {k : Int} (ht : tOk s d = true) (ha : a < s.length) (h1 : 1 ≤ k) (hk : k < rd s (a : Nat)) (hd : ∀ j : Nat, j < d.length → -1099511627776 ≤ rd d j ∧ rd d j ≤ 1099511627776) :
    ∃ X Y Z P Q W, sumR (s.set a k) (partD s d a 0 k) (a : Nat) = ((s.eraseIdx a, X), 0) ∧ sumR (s.set a (rd s (a : Nat) - k)) (partD s d a k (rd s (a : Nat) - k)) (a : Nat) = ((s.eraseIdx a, Y), 0) ∧
      sumR s d (a : Nat) = ((s.eraseIdx a, Z), 0) ∧ elemTwo 10 (s.eraseIdx a) X (s.eraseIdx a) Y = ((s.eraseIdx a, Z), 0) ∧
      maxR (s.set a k) (partD s d a 0 k) (a : Nat) = ((s.eraseIdx a, P), 0) ∧ maxR (s.set a (rd s (a : Nat) - k)) (partD s d a k (rd s (a : Nat) - k)) (a : Nat) = ((s.eraseIdx a, Q), 0) ∧ maxR s d (a : Nat) = ((s.eraseIdx a, W), 0) ∧
      P.length = W.length ∧ Q.length = W.length ∧ ∀ c : Nat, c < W.length → rd W c = max (rd P c) (rd Q c) := by
  have hs := ((tOk_iff _ _).1 ht).1
  have sb := side_bd hs ha
  obtain ⟨e0, e1, e2, e3, e4⟩ := erase_ok hs ha
  have hsd : ((sdOf s a : Nat) : Int) = rd s (a : Nat) := by unfold sdOf; omega
  obtain ⟨x1, P, p1, p2, p3⟩ := part_one (f := 0) (m := k) (B := 1099511627776) (by omega) (by omega) ht ha (by omega) h1 (by omega) hd
  obtain ⟨y1, Q, q1, q2, q3⟩ := part_one (f := k) (m := rd s (a : Nat) - k) (B := 1099511627776) (by omega) (by omega) ht ha (by omega) (by omega) (by omega) hd
  have z1 := sum_small (B := 1099511627776) (by omega) (by omega) ht ha hd
  obtain ⟨W, w1, w2, w3⟩ := max_any s d a ht ha
  obtain ⟨m, hm⟩ : ∃ m : Nat, m = k.toNat := ⟨_, rfl⟩
  obtain ⟨n, hn⟩ : ∃ n : Nat, n = (rd s (a : Nat) - k).toNat := ⟨_, rfl⟩
  have hmn : sdOf s a = m + n := by omega
  rw [← hm] at x1 y1 p3 q3
  rw [← hn] at y1 q3
  simp only [show (0 : Int).toNat = 0 from rfl, Nat.add_zero] at x1 p3
  refine ⟨_, _, _, P, Q, W, x1, y1, z1, ?_, p1, q1, w1, by omega, by omega, fun c hc => ?_⟩
  · have hx : tOk (s.eraseIdx a) ((List.range (sizeS (s.eraseIdx a))).map fun p => sumI (fun i => rd d (laneAt (sdOf s a) (bhOf s a) p i : Nat)) m) = true := by rw [tOk_iff]; exact ⟨e0, by simp⟩
    have hy : tOk (s.eraseIdx a) ((List.range (sizeS (s.eraseIdx a))).map fun p => sumI (fun i => rd d (laneAt (sdOf s a) (bhOf s a) p (i + m) : Nat)) n) = true := by rw [tOk_iff]; exact ⟨e0, by simp⟩
    rw [two_eq (F := addF) rfl hx hy (joinOk_self e0), join_self]
    have key : ∀ p, p < sizeS (s.eraseIdx a) → twoG addF (s.eraseIdx a) ((List.range (sizeS (s.eraseIdx a))).map fun p => sumI (fun i => rd d (laneAt (sdOf s a) (bhOf s a) p i : Nat)) m) (s.eraseIdx a) ((List.range (sizeS (s.eraseIdx a))).map fun p => sumI (fun i => rd d (laneAt (sdOf s a) (bhOf s a) p (i + m) : Nat)) n) (s.eraseIdx a) p
        = (sumI (fun i => rd d (laneAt (sdOf s a) (bhOf s a) p i : Nat)) (sdOf s a), 0) := fun p hp => by
      unfold twoG
      rw [spread_self hx, spread_self hy, rd_range _ _ _ hp, rd_range _ _ _ hp]
      have b1 := sumI_bd (X := fun i => rd d (laneAt (sdOf s a) (bhOf s a) p i : Nat)) (B := 1099511627776) (by omega) m (fun i _ => rd_bdd (by omega) hd _)
      have b2 := sumI_bd (X := fun i => rd d (laneAt (sdOf s a) (bhOf s a) p (i + m) : Nat)) (B := 1099511627776) (by omega) n (fun i _ => rd_bdd (by omega) hd _)
      rw [addF_small (by omega), hmn]
      rw [sumI_split (fun i => rd d (laneAt (m + n) (bhOf s a) p i : Nat)) m n]
    rw [eachR_ok (fun p hp => by rw [key p hp])]
    congr 2
    unfold dataG
    exact List.map_congr_left (fun p hp => by rw [key p (List.mem_range.1 hp)])
  · have hc' : c < sizeS (s.eraseIdx a) := by omega
    obtain ⟨a1, i1, j1, b1⟩ := p3 c hc'
    obtain ⟨a2, i2, j2, b2⟩ := q3 c hc'
    obtain ⟨a3, i3, j3, b3⟩ := w3 c hc'
    have u1 := a3 i1 (by omega)
    have u2 := a3 (i2 + m) (by omega)
    rw [← b1] at u1
    rw [← b2] at u2
    by_cases h : i3 < m
    · have := a1 i3 h
      omega
    · have := a2 (i3 - m) (by omega)
      rw [show i3 - m + m = i3 by omega] at this
      omega
end Go.Proofs.Ytpnigmcpifilmaa.P
