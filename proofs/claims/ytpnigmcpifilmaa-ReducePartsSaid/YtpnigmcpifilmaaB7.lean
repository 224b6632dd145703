/- Plain laws: what is reckoned with one number throughout; errors bring nothing. -/
import Derived.Test.YtpnigmcpifilmaaB6
namespace Go.Proofs.Ytpnigmcpifilmaa.P
open Go.RowKit Go.Proofs.YtpnigmcpifilmaaW.PrintWords Go.Proofs.YtpnigmcpifilmaaW.PrintLast Go.Proofs.YtpnigmcpifilmaaW.PrintMore
set_option linter.unusedVariables false
theorem two_err {op : Int} {a1 a2 b1 b2 S D : List Int} {E : Int} (h : elemTwo op a1 a2 b1 b2 = ((S, D), E)) (he : ¬ E = 0) : S = [] ∧ D = [] := by
  unfold elemTwo at h
  split at h
  · simp only [Prod.mk.injEq] at h; exact ⟨h.1.1.symm, h.1.2.symm⟩
  · rename_i F hF
    split at h
    · split at h
      · unfold eachR eachS eachD at h
        simp only [Prod.mk.injEq] at h
        obtain ⟨⟨h1, h2⟩, h3⟩ := h
        rw [h3, if_neg he] at h1 h2
        exact ⟨h1.symm, h2.symm⟩
      · simp only [Prod.mk.injEq] at h; exact ⟨h.1.1.symm, h.1.2.symm⟩
    · simp only [Prod.mk.injEq] at h; exact ⟨h.1.1.symm, h.1.2.symm⟩
theorem sizeS_pos {s : List Int} (h : shapeOk s = true) : 1 ≤ sizeS s := by
  have h1 := (sides_bd s (shapeOk_bd h).2.1).1
  unfold sizeS; rw [if_pos h]; omega
theorem places_plain {a1 a2 b1 b2 S D : List Int} (i1 : allI a2) (i2 : allI b2) (h : elemTwo 12 a1 a2 b1 b2 = ((S, D), 0)) :
    spreadT a1 a2 S = ((S, spreadD a1 a2 S), 0) ∧ spreadT b1 b2 S = ((S, spreadD b1 b2 S), 0) ∧ 1 ≤ D.length ∧ D.length ≤ 64 ∧ (spreadD a1 a2 S).length = D.length ∧ (spreadD b1 b2 S).length = D.length ∧ tOk S D = true ∧
    ∀ k, k < D.length → mulF (rd (spreadD a1 a2 S) (k : Nat)) (rd (spreadD b1 b2 S) (k : Nat)) = (rd D (k : Nat), 0) ∧ isI64 (rd (spreadD a1 a2 S) (k : Nat)) ∧ isI64 (rd (spreadD b1 b2 S) (k : Nat)) := by
  obtain ⟨t1, t2, hj, hS, hD, hz⟩ := two_inv (F := mulF) rfl h rfl
  have fa : fitsS a1 S = true := by rw [hS]; exact fits_join hj
  have fb : fitsS b1 S = true := by rw [hS]; exact fits_join' hj
  have hs := (fits_parts fa).2.1
  have hl : D.length = sizeS S := by rw [hD, dataG_length]
  refine ⟨by unfold spreadT; rw [if_pos t1, if_pos fa], by unfold spreadT; rw [if_pos t2, if_pos fb], by rw [hl]; exact sizeS_pos hs, by rw [hl]; exact sizeS_le S, by rw [spreadD_length, hl], by rw [spreadD_length, hl], by rw [tOk_iff]; exact ⟨hs, hl⟩, fun k hk => ?_⟩
  rw [hl] at hk
  have e1 := rd_dataG (twoG mulF a1 a2 b1 b2 S) (sizeS S) k hk
  rw [← hD] at e1
  exact ⟨Prod.ext e1.symm (hz k hk), spread_rdI fa t1 i1 k hk, spread_rdI fb t2 i2 k hk⟩
theorem list_map_rd (l : List Int) : (List.range l.length).map (fun (k : Nat) => rd l (k : Int)) = l := by
  refine list_rd _ _ (by simp) (fun k hk => ?_)
  rw [rd_map _ _ _ (by simpa using hk)]
theorem each_id {G : Nat → Int × Int} {s d : List Int} (ht : tOk s d = true) (h : ∀ k, k < sizeS s → G k = (rd d (k : Nat), 0)) : eachR G s = ((s, d), 0) := by
  have hl := ((tOk_iff _ _).1 ht).2
  rw [eachR_ok (fun k hk => by rw [h k hk])]
  congr 2
  have := dataG_congr (G' := fun k => (rd d (k : Nat), 0)) (sizeS s) h
  rw [this]
  unfold dataG
  simp only
  rw [← hl]; exact list_map_rd d
theorem joinL_nil {a : List Int} (h : shapeOk a = true) : joinL a [] = a := by
  refine side_ext _ _ (by rw [joinL_length]; unfold joinN; simp) (fun i _ => ?_)
  rw [join_side, side_over [] i (by simp)]
  have := side_pos h i
  omega
theorem joinOk_nil {a : List Int} (h : shapeOk a = true) : joinOk a [] = true := by
  rw [joinOk_iff, joinL_nil h]
  exact ⟨h, rfl, fun i => by rw [fitB_iff, side_over [] i (by simp)]; omega, h⟩
theorem spread_unit (x : Int) (s : List Int) (k : Nat) (hk : k < sizeS s) : rd (spreadD [] [x] s) k = x := by
  rw [spread_rd _ _ _ _ hk]
  have : fromS [] s (k : Int) = 0 := by unfold fromS; cases s.reverse <;> simp [fromR]
  rw [this]; rfl
theorem two_unit {op : Int} {F : Int → Int → Int × Int} (hF : twoF op = some F) (x : Int) {a1 a2 : List Int} (ht : tOk a1 a2 = true) : elemTwo op a1 a2 [] [x] = eachR (fun k => F (rd a2 (k : Nat)) x) a1 := by
  have hs := ((tOk_iff _ _).1 ht).1
  rw [two_eq hF ht (by rw [tOk_iff]; exact ⟨rfl, rfl⟩) (joinOk_nil hs), joinL_nil hs]
  refine eachR_congr (fun k hk => ?_)
  unfold twoG
  rw [spread_self ht, spread_unit x a1 k hk]
theorem one_eq {op : Int} {F : Int → Int × Int} (hF : oneF op = some F) {a1 a2 : List Int} (h1 : tOk a1 a2 = true) : elemOne op a1 a2 = eachR (fun k => F (rd a2 (k : Nat))) a1 := by
  unfold elemOne
  rw [hF]
  simp only [h1, if_true]
theorem one_inv {op : Int} {F : Int → Int × Int} (hF : oneF op = some F) {a1 a2 S D : List Int} {E : Int} (h : elemOne op a1 a2 = ((S, D), E)) (he : E = 0) :
    tOk a1 a2 = true ∧ S = a1 ∧ D = dataG (fun k => F (rd a2 (k : Nat))) (sizeS a1) ∧ tOk S D = true ∧ ∀ k, k < sizeS a1 → (F (rd a2 (k : Nat))).2 = 0 := by
  unfold elemOne at h
  rw [hF] at h
  simp only at h
  split at h
  · rename_i ht
    obtain ⟨h1, h2, h3⟩ := eachR_inv h he
    subst h1
    exact ⟨ht, rfl, h2, by rw [tOk_iff]; exact ⟨((tOk_iff _ _).1 ht).1, by rw [h2, dataG_length]⟩, h3⟩
  · simp only [Prod.mk.injEq] at h; omega
theorem rdI {d : List Int} (h : allI d) (k : Nat) (hk : k < d.length) : isI64 (rd d (k : Nat)) := h _ (rd_mem _ _ hk)
theorem mul_unit {x : Int} (h : isI64 x) : mulF x 4294967296 = (x, 0) := by
  unfold mulF
  rw [Int.mul_ediv_cancel _ (by omega), if_pos h]
theorem div_unit {x : Int} (h : isI64 x) : divF x 4294967296 = (x, 0) := by
  unfold divF floorDiv
  rw [if_neg (by omega), if_pos (show (0 : Int) < 4294967296 by omega), Int.mul_ediv_cancel _ (by omega), if_pos h]
theorem mul_twice (x : Int) : mulF x 8589934592 = addF x x := by
  unfold mulF addF toldF
  have : x * 8589934592 / 4294967296 = x + x := by omega
  rw [this]
  by_cases h : isI64 (x + x)
  · rw [if_pos h, if_pos (by rw [decide_eq_true_eq]; exact h)]
  · rw [if_neg h, if_neg (by rw [decide_eq_true_eq]; exact h)]
/-- What is turned twice is itself. -/
theorem neg_neg {a1 a2 S D : List Int} {E : Int} (i1 : allI a2) (h : elemOne 20 a1 a2 = ((S, D), E)) (he : E = 0) : elemOne 20 S D = ((a1, a2), 0) := by
  obtain ⟨t1, hS, hD, t2, hz⟩ := one_inv (F := negF) rfl h he
  have hl := ((tOk_iff _ _).1 t1).2
  rw [one_eq (F := negF) rfl t2, hS]
  refine each_id t1 (fun k hk => ?_)
  rw [hD, rd_dataG _ _ _ hk]
  have hi := rdI i1 k (by omega)
  have hk' := hz k hk
  generalize rd a2 (k : Nat) = x at *
  unfold negF at *
  rw [toldF_2, decide_eq_true_eq] at hk'
  have t1 : toldF (-x) (decide (x ≠ -9223372036854775808)) = (-x, 0) := by unfold toldF; rw [if_pos (by simpa using hk')]
  rw [t1]
  unfold toldF isI64 at *
  simp only [Int.neg_neg]
  rw [if_pos (by rw [decide_eq_true_eq]; omega)]
theorem relu_ok {a1 a2 : List Int} (ht : tOk a1 a2 = true) : elemOne 21 a1 a2 = ((a1, a2.map (max · 0)), 0) := by
  rw [one_eq (F := reluF) rfl ht, eachR_ok (fun k _ => rfl)]
  have hl := ((tOk_iff _ _).1 ht).2
  congr 2
  refine list_rd _ _ (by rw [dataG_length]; simp [hl]) (fun k hk => ?_)
  rw [dataG_length] at hk
  rw [rd_dataG _ _ _ hk]
  have hk2 : k < a2.length := by omega
  simp [reluF, rd, List.getD_eq_getElem?_getD, hk2]
theorem relu_rd (d : List Int) (k : Nat) (hk : k < d.length) : rd (d.map (max · 0)) (k : Nat) = max (rd d (k : Nat)) 0 := by
  simp [rd, List.getD_eq_getElem?_getD, hk]
theorem relu_twice (d : List Int) : (d.map (max · 0)).map (max · 0) = d.map (max · 0) := by
  rw [List.map_map]; apply List.map_congr_left; intro x _; simp only [Function.comp]; omega
theorem relu_tOk {s d : List Int} (h : tOk s d = true) : tOk s (d.map (max · 0)) = true := by
  rw [tOk_iff] at *; simpa using h
theorem relu_allI {d : List Int} (h : allI d) : allI (d.map (max · 0)) := by
  intro x hx
  obtain ⟨y, hy, rfl⟩ := List.mem_map.1 hx
  have := h y hy
  unfold isI64 at *; omega
theorem one_I64 {op : Int} {F : Int → Int × Int} (hF : oneF op = some F) : True := trivial
/-- Twice a tensor. -/
theorem twice_any {a1 a2 : List Int} (ht : tOk a1 a2 = true) : elemTwo 12 a1 a2 [] [8589934592] = elemTwo 10 a1 a2 a1 a2 := by
  have hs := ((tOk_iff _ _).1 ht).1
  rw [two_unit (F := mulF) rfl 8589934592 ht, two_eq (F := addF) rfl ht ht (joinOk_self hs), join_self]
  refine eachR_congr (fun k hk => ?_)
  unfold twoG
  rw [spread_self ht, mul_twice]
/-- A difference is the other side of the one turned. -/
theorem sub_turned {a1 a2 b1 b2 S D T C : List Int} {E F : Int} (i1 : allI a2) (i2 : allI b2) (h : elemTwo 11 a1 a2 b1 b2 = ((S, D), E)) (he : E = 0) (h' : elemTwo 11 b1 b2 a1 a2 = ((T, C), F)) (hf : F = 0) :
    elemOne 20 T C = ((S, D), 0) := by
  obtain ⟨t1, t2, hj, hS, hD, hz⟩ := two_inv (F := subF) rfl h he
  obtain ⟨_, _, hj', hT, hC, hz'⟩ := two_inv (F := subF) rfl h' hf
  have fa : fitsS a1 S = true := by rw [hS]; exact fits_join hj
  have fb : fitsS b1 S = true := by rw [hS]; exact fits_join' hj
  have hs := (fits_parts fa).2.1
  have hTS : T = S := by rw [hT, hS, join_comm]
  subst hTS
  have tC : tOk T C = true := by rw [tOk_iff]; exact ⟨hs, by rw [hC, dataG_length]⟩
  have tD : tOk T D = true := by rw [tOk_iff]; exact ⟨hs, by rw [hD, dataG_length]⟩
  rw [one_eq (F := negF) rfl tC]
  refine each_id tD (fun k hk => ?_)
  rw [hC, hD, rd_dataG _ _ _ hk, rd_dataG _ _ _ hk]
  have e1 := hz k hk
  have e2 := hz' k hk
  unfold twoG at *
  generalize rd (spreadD a1 a2 T) k = x at *
  generalize rd (spreadD b1 b2 T) k = y at *
  unfold subF at *
  rw [toldF_2, decide_eq_true_eq] at e1 e2
  have t2 : toldF (y - x) (decide (-9223372036854775808 ≤ y - x ∧ y - x ≤ 9223372036854775807)) = (y - x, 0) := by unfold toldF; rw [if_pos (by rw [decide_eq_true_eq]; exact e2)]
  have t1 : toldF (x - y) (decide (-9223372036854775808 ≤ x - y ∧ x - y ≤ 9223372036854775807)) = (x - y, 0) := by unfold toldF; rw [if_pos (by rw [decide_eq_true_eq]; exact e1)]
  rw [t1, t2]
  unfold negF toldF
  simp only
  rw [if_pos (by rw [decide_eq_true_eq]; omega)]
  congr 1; omega
theorem isq_le (n : Nat) : isq n * isq n ≤ n := (isq_spec n).1
/-- Roots, squared, are not above. -/
theorem roots {a1 a2 S D : List Int} {E : Int} (i1 : allI a2) (h : elemOne 23 a1 a2 = ((S, D), E)) (he : E = 0) :
    ∃ Q, elemTwo 12 S D S D = ((S, Q), 0) ∧ Q.length = a2.length ∧ ∀ k, k < a2.length → 0 ≤ rd a2 (k : Nat) ∧ rd Q (k : Nat) ≤ rd a2 (k : Nat) := by
  obtain ⟨t1, hS, hD, t2, hz⟩ := one_inv (F := sqrtF) rfl h he
  have hl := ((tOk_iff _ _).1 t1).2
  have hs := ((tOk_iff _ _).1 t2).1
  rw [two_eq (F := mulF) rfl t2 t2 (joinOk_self hs), join_self]
  have key : ∀ k, k < sizeS a1 → 0 ≤ rd a2 (k : Nat) ∧ (mulF (sqrtF (rd a2 (k : Nat))).1 (sqrtF (rd a2 (k : Nat))).1).2 = 0 ∧ (mulF (sqrtF (rd a2 (k : Nat))).1 (sqrtF (rd a2 (k : Nat))).1).1 ≤ rd a2 (k : Nat) := by
    intro k hk
    have hi := rdI i1 k (by omega)
    have e1 := hz k hk
    generalize rd a2 (k : Nat) = x at *
    unfold sqrtF at e1 ⊢
    by_cases hx : x < 0
    · rw [if_pos hx] at e1; simp at e1
    rw [if_neg hx]
    refine ⟨by omega, ?_⟩
    simp only
    have h1 := isq_le (x.toNat * 4294967296)
    generalize isq (x.toNat * 4294967296) = r at *
    have h2 : (r : Int) * (r : Int) ≤ x * 4294967296 := by
      have : ((r * r : Nat) : Int) ≤ ((x.toNat * 4294967296 : Nat) : Int) := by omega
      rw [Int.natCast_mul, Int.natCast_mul] at this
      rw [show ((x.toNat : Nat) : Int) = x by omega] at this
      exact this
    have h3 : 0 ≤ (r : Int) * (r : Int) := Int.mul_nonneg (by omega) (by omega)
    unfold mulF isI64 at *
    generalize (r : Int) * (r : Int) = y at *
    rw [if_pos (by omega)]
    exact ⟨rfl, by simp only; omega⟩
  have tw : ∀ k, k < sizeS S → twoG mulF S D S D S k = mulF (sqrtF (rd a2 (k : Nat))).1 (sqrtF (rd a2 (k : Nat))).1 := by
    intro k hk
    unfold twoG
    rw [spread_self t2, hD, rd_dataG _ _ _ (by rw [← hS]; exact hk)]
  refine ⟨_, eachR_ok (fun k hk => by rw [tw k hk]; exact (key k (by rw [← hS]; exact hk)).2.1), by rw [dataG_length, hS, hl], fun k hk => ?_⟩
  have hk' : k < sizeS a1 := by omega
  refine ⟨(key k hk').1, ?_⟩
  rw [rd_dataG _ _ _ (by rw [hS]; exact hk'), tw k (by rw [hS]; exact hk')]
  exact (key k hk').2.2
theorem one_allI (op : Int) {a1 a2 S D : List Int} {E : Int} (i1 : allI a2) (h : elemOne op a1 a2 = ((S, D), E)) (hF : ∀ F, oneF op = some F → ∀ x, isI64 x → isI64 (F x).1) : allI D := by
  unfold elemOne at h
  cases ho : oneF op with
  | none => rw [ho] at h; simp only [Prod.mk.injEq] at h; rw [← h.1.2]; exact nil_allI
  | some F =>
    rw [ho] at h
    simp only at h
    split at h
    · rename_i ht
      have hl := ((tOk_iff _ _).1 ht).2
      unfold eachR eachD at h
      simp only [Prod.mk.injEq] at h
      rw [← h.1.2]
      split
      · intro x hx
        unfold dataG at hx
        obtain ⟨k, hk, rfl⟩ := List.mem_map.1 hx
        exact hF F ho _ (rdI i1 k (by have := List.mem_range.1 hk; omega))
      · exact nil_allI
    · simp only [Prod.mk.injEq] at h; rw [← h.1.2]; exact nil_allI
theorem neg_I64 (x : Int) (h : isI64 x) : isI64 (negF x).1 := by
  unfold negF toldF isI64 at *
  by_cases h1 : x = -9223372036854775808
  · subst h1; simp
  · rw [if_pos (by simpa using h1)]; simp only; omega
theorem sameB_self (s d : List Int) : sameB s d s d = true := by simp [sameB]
end Go.Proofs.Ytpnigmcpifilmaa.P
