/- Plain laws of sides that are added, and of greatest numbers. -/
import Derived.Test.YtpnigmcpifilmaaD9
namespace Go.Proofs.Ytpnigmcpifilmaa.P
open Go.RowKit Go.Proofs.YtpnigmcpifilmaaW.PrintWords Go.Proofs.YtpnigmcpifilmaaW.PrintLast Go.Proofs.YtpnigmcpifilmaaW.PrintMore
set_option linter.unusedVariables false
def sumI (X : Nat → Int) : Nat → Int
  | 0 => 0
  | k + 1 => sumI X k + X k
theorem sumI_congr {X Y : Nat → Int} : ∀ n, (∀ k, k < n → X k = Y k) → sumI X n = sumI Y n
  | 0, _ => rfl
  | n + 1, h => by simp only [sumI]; rw [sumI_congr n (fun k hk => h k (by omega)), h n (by omega)]
theorem sumI_add (X Y : Nat → Int) : ∀ n, sumI (fun k => X k + Y k) n = sumI X n + sumI Y n
  | 0 => rfl
  | n + 1 => by simp only [sumI]; rw [sumI_add X Y n]; omega
theorem sumI_zero : ∀ n, sumI (fun _ => 0) n = 0
  | 0 => rfl
  | n + 1 => by simp only [sumI]; rw [sumI_zero n]; rfl
theorem sumI_swap (X : Nat → Nat → Int) (m : Nat) : ∀ n, sumI (fun i => sumI (fun j => X i j) m) n = sumI (fun j => sumI (fun i => X i j) n) m
  | 0 => by simp only [sumI]; rw [sumI_zero]
  | n + 1 => by
    simp only [sumI]
    rw [sumI_swap X m n, ← sumI_add]
theorem sumI_bd {X : Nat → Int} {B : Int} (hB : 0 ≤ B) : ∀ n, (∀ k, k < n → -B ≤ X k ∧ X k ≤ B) → -(n * B) ≤ sumI X n ∧ sumI X n ≤ n * B
  | 0, _ => by simp [sumI]
  | n + 1, h => by
    have ih := sumI_bd hB n (fun k hk => h k (by omega))
    have h1 := h n (by omega)
    simp only [sumI]
    have e : ((n + 1 : Nat) : Int) * B = (n : Int) * B + B := by rw [Int.natCast_add, Int.add_mul]; simp
    omega
/-- What is added without being too great is the sum. -/
theorem foldN_add {X : Nat → Int} {B : Int} (hB : 0 ≤ B) (n : Nat) (hX : ∀ k, k < n → -B ≤ X k ∧ X k ≤ B) (hn : (n : Int) * B ≤ 9223372036854775807) : ∀ k, k ≤ n → foldN addF 0 X k = (sumI X k, 0)
  | 0, _ => rfl
  | k + 1, hk => by
    rw [foldN_next (foldN_add hB n hX hn k (by omega))]
    have hb := sumI_bd hB (k + 1) (fun j hj => hX j (by omega))
    have hle : ((k + 1 : Nat) : Int) * B ≤ (n : Int) * B := Int.mul_le_mul_of_nonneg_right (by omega) hB
    simp only [sumI] at *
    unfold addF toldF
    rw [if_pos (by rw [decide_eq_true_eq]; omega)]
theorem foldN_most (x0 : Int) (X : Nat → Int) : ∀ k, ∃ M, foldN mostF x0 X k = (M, 0) ∧ x0 ≤ M ∧ (∀ i, i < k → X i ≤ M) ∧ (M = x0 ∨ ∃ i, i < k ∧ M = X i)
  | 0 => ⟨x0, rfl, by omega, fun i hi => by omega, .inl rfl⟩
  | k + 1 => by
    obtain ⟨M, h1, h2, h3, h4⟩ := foldN_most x0 X k
    refine ⟨max M (X k), by rw [foldN_next h1]; rfl, by omega, fun i hi => ?_, ?_⟩
    · by_cases e : i = k
      · subst e; omega
      · have := h3 i (by omega); omega
    · by_cases e : X k ≤ M
      · rw [show max M (X k) = M by omega]
        rcases h4 with h | ⟨i, hi, h⟩
        · exact .inl h
        · exact .inr ⟨i, by omega, h⟩
      · exact .inr ⟨k, by omega, by omega⟩
theorem sum_small {s d : List Int} {a : Nat} {B : Int} (hB : 0 ≤ B) (hb : B * 16 ≤ 9223372036854775807) (ht : tOk s d = true) (ha : a < s.length) (hd : ∀ k : Nat, k < d.length → -B ≤ rd d k ∧ rd d k ≤ B) :
    sumR s d (a : Nat) = ((s.eraseIdx a, (List.range (sizeS (s.eraseIdx a))).map fun p => sumI (fun i => rd d (laneAt (sdOf s a) (bhOf s a) p i : Nat)) (sdOf s a)), 0) := by
  have hs := ((tOk_iff _ _).1 ht).1
  have hdl := ((tOk_iff _ _).1 ht).2
  obtain ⟨e0, e1, e2, e3, e4⟩ := erase_ok hs ha
  have sb := side_bd hs ha
  have hsd : sdOf s a ≤ 16 := by unfold sdOf; omega
  have key : ∀ p, p < sizeS (s.eraseIdx a) → togG addF doneF noneF d (sdOf s a) (bhOf s a) p = (sumI (fun i => rd d (laneAt (sdOf s a) (bhOf s a) p i : Nat)) (sdOf s a), 0) := by
    intro p hp
    have hf := foldN_add (X := fun i => rd d (laneAt (sdOf s a) (bhOf s a) p i : Nat)) hB (sdOf s a) (fun k hk => hd _ (by rw [hdl, e2]; exact lane_lt (by rw [← e1]; exact hp) hk e3)) (by
      have : ((sdOf s a : Nat) : Int) * B ≤ 16 * B := Int.mul_le_mul_of_nonneg_right (by omega) hB
      omega) (sdOf s a) (Nat.le_refl _)
    exact togG_end (Fe := doneF) (Ff := noneF) hf
  unfold sumR togR
  rw [if_pos ht, if_pos ⟨by omega, by omega⟩]
  simp only [Int.toNat_natCast]
  rw [eachR_ok (fun p hp => by rw [key p hp])]
  congr 2
  unfold dataG
  exact List.map_congr_left (fun p hp => by rw [key p (List.mem_range.1 hp)])
theorem max_any (s d : List Int) (a : Nat) (ht : tOk s d = true) (ha : a < s.length) :
    ∃ D, maxR s d (a : Nat) = ((s.eraseIdx a, D), 0) ∧ D.length = sizeS (s.eraseIdx a) ∧ ∀ p, p < sizeS (s.eraseIdx a) → (∀ i, i < sdOf s a → rd d (laneAt (sdOf s a) (bhOf s a) p i : Nat) ≤ rd D (p : Nat)) ∧ ∃ i, i < sdOf s a ∧ rd D (p : Nat) = rd d (laneAt (sdOf s a) (bhOf s a) p i : Nat) := by
  have hs := ((tOk_iff _ _).1 ht).1
  have sb := side_bd hs ha
  have hsd : 1 ≤ sdOf s a := by unfold sdOf; omega
  have key : ∀ p, ∃ M, togG mostF doneF id d (sdOf s a) (bhOf s a) p = (M, 0) ∧ (∀ i, i < sdOf s a → rd d (laneAt (sdOf s a) (bhOf s a) p i : Nat) ≤ M) ∧ ∃ i, i < sdOf s a ∧ M = rd d (laneAt (sdOf s a) (bhOf s a) p i : Nat) := by
    intro p
    obtain ⟨M, h1, h2, h3, h4⟩ := foldN_most (rd d (laneAt (sdOf s a) (bhOf s a) p 0 : Nat)) (fun i => rd d (laneAt (sdOf s a) (bhOf s a) p i : Nat)) (sdOf s a)
    refine ⟨M, ?_, h3, ?_⟩
    · exact togG_end (Fe := doneF) (Ff := id) h1
    · rcases h4 with h | h
      · exact ⟨0, by omega, h⟩
      · exact h
  refine ⟨dataG (togG mostF doneF id d (sdOf s a) (bhOf s a)) (sizeS (s.eraseIdx a)), ?_, dataG_length _ _, fun p hp => ?_⟩
  · unfold maxR togR
    rw [if_pos ht, if_pos ⟨by omega, by omega⟩]
    simp only [Int.toNat_natCast]
    exact eachR_ok (fun p _ => by obtain ⟨M, h, _⟩ := key p; rw [h])
  · obtain ⟨M, h1, h2, h3⟩ := key p
    rw [rd_dataG _ _ _ hp, h1]
    exact ⟨h2, h3⟩
/-! two sides -/
theorem two_sides {m n : Int} (h : shapeOk [m, n] = true) : shapeOk [m] = true ∧ shapeOk [n] = true ∧ sizeS [m] = m.toNat ∧ sizeS [n] = n.toNat ∧ sizeS [m, n] = m.toNat * n.toNat ∧ 1 ≤ m ∧ 1 ≤ n ∧ m ≤ 16 ∧ n ≤ 16 := by
  have h1 := shapeOk_bd h
  have a1 := h1.2.1
  simp only [List.all_cons, List.all_nil, Bool.and_true, Bool.and_eq_true, sideOk, decide_eq_true_eq] at a1
  have k1 : shapeOk [m] = true := shapeOk_of (by simp) (by simp [sideOk]; omega) (by simp [prod]; omega)
  have k2 : shapeOk [n] = true := shapeOk_of (by simp) (by simp [sideOk]; omega) (by simp [prod]; omega)
  have e1 := sizeS_eq k1
  have e2 := sizeS_eq k2
  have e3 := sizeS_eq h
  simp only [prod, Int.mul_one] at e1 e2 e3
  refine ⟨k1, k2, by omega, by omega, ?_, by omega, by omega, by omega, by omega⟩
  have h' : ((sizeS [m, n] : Nat) : Int) = ((m.toNat * n.toNat : Nat) : Int) := by
    rw [e3, Int.natCast_mul, show ((m.toNat : Nat) : Int) = m by omega, show ((n.toNat : Nat) : Int) = n by omega]
  exact Int.ofNat.inj h'
theorem rd_range (f : Nat → Int) (n k : Nat) (h : k < n) : rd ((List.range n).map f) (k : Nat) = f k := rd_map f n k h
theorem sizeS_nil : sizeS [] = 1 := rfl
theorem sum_all {n : Int} {D : List Int} {B : Int} (hB : 0 ≤ B) (hb : B * 16 ≤ 9223372036854775807) (hn : shapeOk [n] = true) (hD : D.length = n.toNat) (hd : ∀ k : Nat, k < D.length → -B ≤ rd D k ∧ rd D k ≤ B) (hsz : sizeS [n] = n.toNat) :
    sumR [n] D 0 = (([], [sumI (fun i => rd D (i : Nat)) n.toNat]), 0) := by
  have ht : tOk [n] D = true := by rw [tOk_iff]; exact ⟨hn, by omega⟩
  have h := sum_small (a := 0) hB hb ht (by simp) hd
  rw [show ((0 : Nat) : Int) = 0 from rfl] at h
  rw [h]
  have e1 : sdOf [n] 0 = n.toNat := by simp [sdOf, rd]
  have e2 : bhOf [n] 0 = 1 := rfl
  have e3 : ([n] : List Int).eraseIdx 0 = [] := rfl
  rw [e1, e2, e3, sizeS_nil]
  simp only [List.range_one, List.map_cons, List.map_nil]
  congr 3
  exact sumI_congr _ (fun k _ => by unfold laneAt; simp)
theorem twice_sum {s d : List Int} (ht : tOk s d = true) (h2 : s.length = 2) (hd : ∀ k : Nat, k < d.length → -1099511627776 ≤ rd d k ∧ rd d k ≤ 1099511627776) :
    ∃ D1 D2 T, ∃ m n : Int, s = [m, n] ∧ sumR s d 0 = (([n], D1), 0) ∧ sumR [n] D1 0 = (([], T), 0) ∧ sumR s d 1 = (([m], D2), 0) ∧ sumR [m] D2 0 = (([], T), 0) := by
  obtain ⟨m, n, rfl⟩ : ∃ m n, s = [m, n] := by
    match s, h2 with
    | [m, n], _ => exact ⟨m, n, rfl⟩
  have hs := ((tOk_iff _ _).1 ht).1
  have hdl := ((tOk_iff _ _).1 ht).2
  obtain ⟨k1, k2, z1, z2, z3, b1, b2, b3, b4⟩ := two_sides hs
  rw [z3] at hdl
  have a0 := sum_small (a := 0) (B := 1099511627776) (by omega) (by omega) ht (by simp) hd
  have a1 := sum_small (a := 1) (B := 1099511627776) (by omega) (by omega) ht (by simp) hd
  have e1 : sdOf [m, n] 0 = m.toNat := by simp [sdOf, rd]
  have e2 : bhOf [m, n] 0 = n.toNat := z2
  have e3 : ([m, n] : List Int).eraseIdx 0 = [n] := rfl
  have f1 : sdOf [m, n] 1 = n.toNat := by simp [sdOf, rd]
  have f2 : bhOf [m, n] 1 = 1 := rfl
  have f3 : ([m, n] : List Int).eraseIdx 1 = [m] := rfl
  rw [e1, e2, e3, z2] at a0
  rw [f1, f2, f3, z1] at a1
  obtain ⟨M, hM⟩ : ∃ x, m.toNat = x := ⟨_, rfl⟩
  obtain ⟨N, hN⟩ : ∃ x, n.toNat = x := ⟨_, rfl⟩
  rw [hM, hN] at a0 a1 hdl
  have l0 : ∀ p i, p < N → laneAt M N p i = i * N + p := fun p i hp => by unfold laneAt; rw [Nat.div_eq_of_lt hp, Nat.mod_eq_of_lt hp]; simp
  have l1 : ∀ p i, laneAt N 1 p i = p * N + i := fun p i => by unfold laneAt; rw [Nat.div_one, Nat.mod_one]; omega
  have hin : ∀ i j, i < M → j < N → i * N + j < M * N := fun i j hi hj => by
    have := Nat.mul_le_mul_right N (show i + 1 ≤ M by omega)
    rw [Nat.add_mul] at this; omega
  have q0 := sum_all (n := n) (D := (List.range N).map fun p => sumI (fun i => rd d (laneAt M N p i : Nat)) M) (B := 16 * 1099511627776) (by omega) (by omega) k2 (by simp [hN]) (fun k hk => by
    have hk' : k < N := by simpa using hk
    rw [rd_range _ _ _ hk']
    have := sumI_bd (X := fun i => rd d (laneAt M N k i : Nat)) (B := 1099511627776) (by omega) M (fun i hi => hd _ (by rw [l0 k i hk', hdl]; exact hin i k hi hk'))
    omega) z2
  have q1 := sum_all (n := m) (D := (List.range M).map fun p => sumI (fun i => rd d (laneAt N 1 p i : Nat)) N) (B := 16 * 1099511627776) (by omega) (by omega) k1 (by simp [hM]) (fun k hk => by
    have hk' : k < M := by simpa using hk
    rw [rd_range _ _ _ hk']
    have := sumI_bd (X := fun i => rd d (laneAt N 1 k i : Nat)) (B := 1099511627776) (by omega) N (fun i hi => hd _ (by rw [l1, hdl]; exact hin k i hk' hi))
    omega) z1
  rw [hN] at q0
  rw [hM] at q1
  refine ⟨_, _, _, m, n, rfl, a0, q0, a1, ?_⟩
  rw [q1]
  congr 3
  have g0 : sumI (fun i => rd ((List.range N).map fun p => sumI (fun i => rd d (laneAt M N p i : Nat)) M) (i : Nat)) N = sumI (fun p => sumI (fun i => rd d ((i * N + p : Nat) : Int)) M) N :=
    sumI_congr _ (fun k hk => by rw [rd_range _ _ _ hk]; exact sumI_congr _ (fun i _ => by rw [l0 k i hk]))
  have g1 : sumI (fun i => rd ((List.range M).map fun p => sumI (fun i => rd d (laneAt N 1 p i : Nat)) N) (i : Nat)) M = sumI (fun p => sumI (fun i => rd d ((p * N + i : Nat) : Int)) N) M :=
    sumI_congr _ (fun k hk => by rw [rd_range _ _ _ hk]; exact sumI_congr _ (fun i _ => by rw [l1]))
  rw [g0, g1]
  exact sumI_swap (fun p i => rd d ((p * N + i : Nat) : Int)) N M
theorem twice_max {s d : List Int} (ht : tOk s d = true) (h2 : s.length = 2) :
    ∃ D1 D2 T, ∃ m n : Int, s = [m, n] ∧ maxR s d 0 = (([n], D1), 0) ∧ maxR [n] D1 0 = (([], T), 0) ∧ maxR s d 1 = (([m], D2), 0) ∧ maxR [m] D2 0 = (([], T), 0) := by
  obtain ⟨m, n, rfl⟩ : ∃ m n, s = [m, n] := by
    match s, h2 with
    | [m, n], _ => exact ⟨m, n, rfl⟩
  have hs := ((tOk_iff _ _).1 ht).1
  have hdl := ((tOk_iff _ _).1 ht).2
  obtain ⟨k1, k2, z1, z2, z3, b1, b2, b3, b4⟩ := two_sides hs
  rw [z3] at hdl
  obtain ⟨D1, a0, a1, a2⟩ := max_any [m, n] d 0 ht (by simp)
  obtain ⟨D2, c0, c1, c2⟩ := max_any [m, n] d 1 ht (by simp)
  have e1 : sdOf [m, n] 0 = m.toNat := by simp [sdOf, rd]
  have e2 : bhOf [m, n] 0 = n.toNat := z2
  have e3 : ([m, n] : List Int).eraseIdx 0 = [n] := rfl
  have f1 : sdOf [m, n] 1 = n.toNat := by simp [sdOf, rd]
  have f2 : bhOf [m, n] 1 = 1 := rfl
  have f3 : ([m, n] : List Int).eraseIdx 1 = [m] := rfl
  rw [e1, e2, e3, z2] at a2
  rw [e3] at a0
  rw [e3, z2] at a1
  rw [f1, f2, f3, z1] at c2
  rw [f3] at c0
  rw [f3, z1] at c1
  have t1 : tOk [n] D1 = true := by rw [tOk_iff]; exact ⟨k2, by omega⟩
  have t2 : tOk [m] D2 = true := by rw [tOk_iff]; exact ⟨k1, by omega⟩
  obtain ⟨T1, p0, p1, p2⟩ := max_any [n] D1 0 t1 (by simp)
  obtain ⟨T2, q0, q1, q2⟩ := max_any [m] D2 0 t2 (by simp)
  have e4 : sdOf [n] 0 = n.toNat := by simp [sdOf, rd]
  have f4 : sdOf [m] 0 = m.toNat := by simp [sdOf, rd]
  have e5 : ([n] : List Int).eraseIdx 0 = [] := rfl
  have f5 : ([m] : List Int).eraseIdx 0 = [] := rfl
  have e6 : bhOf [n] 0 = 1 := rfl
  have f6 : bhOf [m] 0 = 1 := rfl
  rw [e5, sizeS_nil, e4, e6] at p2
  rw [f5, sizeS_nil, f4, f6] at q2
  rw [e5] at p0
  rw [f5] at q0
  rw [e5, sizeS_nil] at p1
  rw [f5, sizeS_nil] at q1
  obtain ⟨M, hM⟩ : ∃ x, m.toNat = x := ⟨_, rfl⟩
  obtain ⟨N, hN⟩ : ∃ x, n.toNat = x := ⟨_, rfl⟩
  rw [hM, hN] at a2 c2 hdl
  rw [hN] at a1 p2
  rw [hM] at c1 q2
  have l0 : ∀ p i, p < N → laneAt M N p i = i * N + p := fun p i hp => by unfold laneAt; rw [Nat.div_eq_of_lt hp, Nat.mod_eq_of_lt hp]; simp
  have l1 : ∀ (sd p i : Nat), laneAt sd 1 p i = p * sd + i := fun sd p i => by unfold laneAt; rw [Nat.div_one, Nat.mod_one]; omega
  obtain ⟨x1, i1, hi1, y1⟩ := p2 0 (by omega)
  obtain ⟨x2, i2, hi2, y2⟩ := q2 0 (by omega)
  simp only [l1, Nat.zero_mul, Nat.zero_add] at x1 y1 x2 y2
  -- both are the greatest of all
  have u1 : ∀ i j, i < M → j < N → rd d ((i * N + j : Nat) : Int) ≤ rd T1 (0 : Nat) := fun i j hi hj => by
    have h1 := (a2 j hj).1 i hi
    rw [l0 j i hj] at h1
    have h2 := x1 j hj
    omega
  have u2 : ∀ i j, i < M → j < N → rd d ((i * N + j : Nat) : Int) ≤ rd T2 (0 : Nat) := fun i j hi hj => by
    have h1 := (c2 i hi).1 j hj
    rw [l1] at h1
    have h2 := x2 i hi
    omega
  obtain ⟨w1, hw1, v1⟩ := (a2 i1 hi1).2
  obtain ⟨w2, hw2, v2⟩ := (c2 i2 hi2).2
  rw [l0 i1 w1 hi1] at v1
  rw [l1] at v2
  have r1 := u2 w1 i1 hw1 hi1
  have r2 := u1 i2 w2 hi2 hw2
  have hT : T1 = T2 := by
    refine list_rd _ _ (by omega) (fun k hk => ?_)
    have : k = 0 := by omega
    subst this
    simp only [Int.natCast_zero] at *
    omega
  exact ⟨D1, D2, T1, m, n, rfl, a0, p0, c0, by rw [hT]; exact q0⟩
theorem rd_I64 {d : List Int} (h : allI d) (j : Int) : isI64 (rd d j) := by
  by_cases hj : j.toNat < d.length
  · exact h _ (by simp [rd, List.getD_eq_getElem?_getD, hj])
  · have : rd d j = 0 := by simp [rd, List.getD_eq_getElem?_getD, List.getElem?_eq_none (show d.length ≤ j.toNat by omega)]
    rw [this]; exact isI64_zero
theorem togR_allI {Fw Fe : Int → Int → Int × Int} {Ff : Int → Int} (hw : ∀ a b, isI64 a → isI64 b → isI64 (Fw a b).1) (he : ∀ a b, isI64 a → isI64 (Fe a b).1) (hf : ∀ a, isI64 a → isI64 (Ff a)) {s d : List Int} {ax : Int} (hd : allI d) {S D : List Int} {E : Int} (h : togR Fw Fe Ff s d ax = ((S, D), E)) : allI D := by
  have : allI (togR Fw Fe Ff s d ax).1.2 := by
    unfold togR
    split
    · split
      · refine eachR_allI (fun k => ?_) _
        unfold togG
        simp only
        split
        · exact he _ _ (foldN_I64 hw (hf _ (rd_I64 hd _)) _ (fun j _ => rd_I64 hd _))
        · exact isI64_zero
      · exact nil_allI
    · exact nil_allI
  rw [h] at this; exact this
theorem sum_allI {s d : List Int} {ax : Int} (hd : allI d) {S D : List Int} {E : Int} (h : sumR s d ax = ((S, D), E)) : allI D :=
  togR_allI (Fw := addF) (Fe := doneF) (Ff := noneF) (fun a b _ _ => add_I64 a b) (fun a b ha => ha) (fun _ _ => isI64_zero) hd h
theorem max_allI {s d : List Int} {ax : Int} (hd : allI d) {S D : List Int} {E : Int} (h : maxR s d ax = ((S, D), E)) : allI D :=
  togR_allI (Fw := mostF) (Fe := doneF) (Ff := id) most_I64 (fun a b ha => ha) (fun _ h => h) hd h
end Go.Proofs.Ytpnigmcpifilmaa.P
