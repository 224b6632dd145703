/- Plain laws of what elem.Two computes. -/
import Derived.Test.YtpnigmcpifilmaaA17
namespace Go.Proofs.Ytpnigmcpifilmaa.P
open Go.RowKit Go.Proofs.YtpnigmcpifilmaaW.PrintWords Go.Proofs.YtpnigmcpifilmaaW.PrintLast Go.Proofs.YtpnigmcpifilmaaW.PrintMore
set_option linter.unusedVariables false
set_option linter.unusedSimpArgs false
/-! plain laws of what Two and One compute -/
theorem errG_congr {G G' : Nat → Int × Int} : ∀ n, (∀ k, k < n → G k = G' k) → errG G n = errG G' n
  | 0, _ => rfl
  | n + 1, h => by
    have ih := errG_congr n (fun k hk => h k (by omega))
    simp only [errG]
    rw [ih, h n (by omega)]
theorem dataG_congr {G G' : Nat → Int × Int} (n : Nat) (h : ∀ k, k < n → G k = G' k) : dataG G n = dataG G' n := by
  unfold dataG
  apply List.map_congr_left
  intro k hk
  rw [h k (List.mem_range.1 hk)]
theorem eachR_congr {G G' : Nat → Int × Int} {s : List Int} (h : ∀ k, k < sizeS s → G k = G' k) : eachR G s = eachR G' s := by
  unfold eachR eachS eachD
  rw [errG_congr _ h, dataG_congr _ h]
theorem errG_zero {G : Nat → Int × Int} : ∀ n, (∀ k, k < n → (G k).2 = 0) → errG G n = 0
  | 0, _ => rfl
  | n + 1, h => by
    simp only [errG]
    rw [errG_zero n (fun k hk => h k (by omega)), if_pos rfl]; exact h n (by omega)
theorem errG_all {G : Nat → Int × Int} : ∀ n, errG G n = 0 → ∀ k, k < n → (G k).2 = 0
  | 0, _, k, hk => by omega
  | n + 1, h, k, hk => by
    simp only [errG] at h
    split at h
    · rename_i h0
      by_cases e : k = n
      · subst e; exact h
      · exact errG_all n h0 k (by omega)
    · rename_i h0; exact (h0 h).elim
theorem eachR_ok {G : Nat → Int × Int} {s : List Int} (h : ∀ k, k < sizeS s → (G k).2 = 0) : eachR G s = ((s, dataG G (sizeS s)), 0) := by
  unfold eachR eachS eachD
  rw [errG_zero _ h]; simp
theorem eachR_inv {G : Nat → Int × Int} {s S D : List Int} {E : Int} (h : eachR G s = ((S, D), E)) (he : E = 0) : S = s ∧ D = dataG G (sizeS s) ∧ ∀ k, k < sizeS s → (G k).2 = 0 := by
  unfold eachR eachS eachD at h
  simp only [Prod.mk.injEq] at h
  obtain ⟨⟨h1, h2⟩, h3⟩ := h
  have h0 : errG G (sizeS s) = 0 := by rw [h3, he]
  rw [if_pos h0] at h1 h2
  exact ⟨h1.symm, h2.symm, errG_all _ h0⟩
theorem toldF_2 (n : Int) (b : Bool) : (toldF n b).2 = 0 ↔ b = true := by cases b <;> simp [toldF]
theorem addF_comm (a b : Int) : addF a b = addF b a := by unfold addF; rw [Int.add_comm]
theorem mulF_comm (a b : Int) : mulF a b = mulF b a := by unfold mulF; rw [Int.mul_comm]
theorem two_comm {op : Int} {F : Int → Int → Int × Int} (hF : twoF op = some F) (hc : ∀ a b, F a b = F b a) (a1 a2 b1 b2 : List Int) : elemTwo op a1 a2 b1 b2 = elemTwo op b1 b2 a1 a2 := by
  unfold elemTwo
  rw [hF]
  simp only
  rw [Bool.and_comm (tOk a1 a2), joinOk_comm a1 b1, join_comm a1 b1]
  have : twoG F a1 a2 b1 b2 (joinL b1 a1) = twoG F b1 b2 a1 a2 (joinL b1 a1) := by
    funext k; unfold twoG; exact hc _ _
  rw [this]
theorem two_inv {op : Int} {F : Int → Int → Int × Int} (hF : twoF op = some F) {a1 a2 b1 b2 S D : List Int} {E : Int} (h : elemTwo op a1 a2 b1 b2 = ((S, D), E)) (he : E = 0) :
    tOk a1 a2 = true ∧ tOk b1 b2 = true ∧ joinOk a1 b1 = true ∧ S = joinL a1 b1 ∧ D = dataG (twoG F a1 a2 b1 b2 S) (sizeS S) ∧ ∀ k, k < sizeS S → (twoG F a1 a2 b1 b2 S k).2 = 0 := by
  unfold elemTwo at h
  rw [hF] at h
  simp only at h
  split at h
  · rename_i ht
    rw [Bool.and_eq_true] at ht
    split at h
    · rename_i hj
      obtain ⟨h1, h2, h3⟩ := eachR_inv h he
      subst h1
      exact ⟨ht.1, ht.2, hj, rfl, h2, h3⟩
    · simp only [Prod.mk.injEq] at h; omega
  · simp only [Prod.mk.injEq] at h; omega
theorem two_eq {op : Int} {F : Int → Int → Int × Int} (hF : twoF op = some F) {a1 a2 b1 b2 : List Int} (h1 : tOk a1 a2 = true) (h2 : tOk b1 b2 = true) (h3 : joinOk a1 b1 = true) : elemTwo op a1 a2 b1 b2 = eachR (twoG F a1 a2 b1 b2 (joinL a1 b1)) (joinL a1 b1) := by
  unfold elemTwo
  rw [hF]
  simp only [h1, h2, h3, Bool.and_self, if_true]
theorem tOk_iff (s d : List Int) : tOk s d = true ↔ shapeOk s = true ∧ d.length = sizeS s := by simp [tOk]
theorem dataG_length (G : Nat → Int × Int) (n : Nat) : (dataG G n).length = n := by simp [dataG]
theorem rd_dataG (G : Nat → Int × Int) (n k : Nat) (h : k < n) : rd (dataG G n) (k : Int) = (G k).1 := rd_map _ _ _ h
theorem isI64_zero : isI64 0 := by unfold isI64; omega
theorem two_I64 {op : Int} {F : Int → Int → Int × Int} (hF : twoF op = some F) (a b : Int) : isI64 (F a b).1 := by
  unfold twoF at hF
  repeat' split at hF
  all_goals cases hF
  · unfold addF toldF; split
    · rename_i h; exact of_decide_eq_true h
    · exact isI64_zero
  · unfold subF toldF; split
    · rename_i h; exact of_decide_eq_true h
    · exact isI64_zero
  · unfold mulF; split
    · assumption
    · exact isI64_zero
  · unfold divF; split
    · exact isI64_zero
    · split
      · assumption
      · exact isI64_zero
theorem dataG_allI {G : Nat → Int × Int} (h : ∀ k, isI64 (G k).1) (n : Nat) : allI (dataG G n) := by
  intro x hx
  unfold dataG at hx
  obtain ⟨k, _, rfl⟩ := List.mem_map.1 hx
  exact h k
theorem eachR_allI {G : Nat → Int × Int} (h : ∀ k, isI64 (G k).1) (s : List Int) : allI (eachR G s).1.2 := by
  unfold eachR eachD
  simp only
  split
  · exact dataG_allI h _
  · intro x hx; cases hx
theorem nil_allI : allI [] := fun x hx => by cases hx
theorem two_allI (op : Int) (a1 a2 b1 b2 : List Int) {S D : List Int} {E : Int} (h : elemTwo op a1 a2 b1 b2 = ((S, D), E)) : allI D := by
  have : allI (elemTwo op a1 a2 b1 b2).1.2 := by
    unfold elemTwo
    cases hF : twoF op with
    | none => exact nil_allI
    | some F =>
      simp only
      split
      · split
        · exact eachR_allI (fun k => two_I64 hF _ _) _
        · exact nil_allI
      · exact nil_allI
  rw [h] at this; exact this
theorem join_absorb {a b : List Int} (h : joinOk a b = true) : joinL (joinL a b) b = joinL a b ∧ joinOk (joinL a b) b = true := by
  constructor
  · rw [join_assoc, join_self]
  · rw [joinOk_comm, join_comm a b]; exact joinOk_left (by rw [joinOk_comm]; exact h)
theorem dataG_const (n : Nat) (x : Int) (G : Nat → Int × Int) (h : ∀ k, k < n → (G k).1 = x) : dataG G n = List.replicate n x := by
  apply List.ext_getElem
  · simp [dataG]
  · intro i h1 h2
    simp only [dataG, List.getElem_map, List.getElem_range, List.getElem_replicate]
    exact h i (by simpa [dataG] using h1)
theorem spread_rdI {a1 a2 s : List Int} (hf : fitsS a1 s = true) (ht : tOk a1 a2 = true) (hi : allI a2) (k : Nat) (hk : k < sizeS s) : isI64 (rd (spreadD a1 a2 s) k) := by
  rw [spread_rd _ _ _ _ hk]
  obtain ⟨f1, f2, _, f4⟩ := fits_parts hf
  have fl := fromS_lt a1 s (k : Int) f4 f1 f2 (by omega)
  obtain ⟨j, hj⟩ := Int.eq_ofNat_of_zero_le fl.1
  rw [hj] at fl ⊢
  rw [tOk_iff] at ht
  exact hi _ (rd_mem _ _ (by omega))
/-- A tensor less itself is 0 throughout. -/
theorem sub_self {a1 a2 : List Int} (ht : tOk a1 a2 = true) : elemTwo 11 a1 a2 a1 a2 = fullT a1 0 := by
  have hs := ((tOk_iff _ _).1 ht).1
  rw [two_eq (F := subF) rfl ht ht (joinOk_self hs), join_self]
  have h0 : ∀ k, twoG subF a1 a2 a1 a2 a1 k = (0, 0) := fun k => by unfold twoG subF; rw [Int.sub_self]; rfl
  rw [eachR_ok (fun k _ => by rw [h0 k]), dataG_const _ 0 _ (fun k _ => by rw [h0 k])]
  unfold fullT; rw [if_pos hs]
/-- What is added is taken away again. -/
theorem add_sub {a1 a2 b1 b2 S D : List Int} {E : Int} (i1 : allI a2) (h : elemTwo 10 a1 a2 b1 b2 = ((S, D), E)) (he : E = 0) :
    elemTwo 11 S D b1 b2 = ((S, spreadD a1 a2 S), 0) ∧ spreadT a1 a2 S = ((S, spreadD a1 a2 S), 0) := by
  obtain ⟨t1, t2, hj, hS, hD, hz⟩ := two_inv (F := addF) rfl h he
  have fa : fitsS a1 S = true := by rw [hS]; exact fits_join hj
  have fb : fitsS b1 S = true := by rw [hS]; exact fits_join' hj
  have tS : tOk S D = true := by rw [tOk_iff]; exact ⟨(fits_parts fa).2.1, by rw [hD, dataG_length]⟩
  have ab := join_absorb hj
  rw [← hS] at ab
  constructor
  · rw [two_eq (F := subF) rfl tS t2 ab.2, ab.1]
    have key : ∀ k, k < sizeS S → twoG subF S D b1 b2 S k = (rd (spreadD a1 a2 S) k, 0) := by
      intro k hk
      unfold twoG
      rw [spread_self tS, hD, rd_dataG _ _ _ hk]
      have hz' := hz k hk
      have hi := spread_rdI fa t1 i1 k hk
      unfold twoG at hz' ⊢
      generalize rd (spreadD a1 a2 S) k = x at *
      generalize rd (spreadD b1 b2 S) k = y at *
      unfold addF at hz' ⊢
      rw [toldF_2] at hz'
      rw [hz']
      unfold subF toldF
      simp only [if_true]
      rw [show x + y - y = x by omega, if_pos (by rw [decide_eq_true_eq]; exact hi)]
    rw [eachR_ok (fun k hk => by rw [key k hk])]
    congr 2
    apply List.ext_getElem?
    intro k
    by_cases hk : k < sizeS S
    · have e1 := rd_dataG (twoG subF S D b1 b2 S) (sizeS S) k hk
      rw [key k hk] at e1
      have l1 := dataG_length (twoG subF S D b1 b2 S) (sizeS S)
      have l2 := spreadD_length a1 a2 S
      unfold rd at e1
      simp only [Int.toNat_natCast, List.getD_eq_getElem?_getD] at e1
      rw [List.getElem?_eq_getElem (show k < (dataG (twoG subF S D b1 b2 S) (sizeS S)).length by omega), List.getElem?_eq_getElem (show k < (spreadD a1 a2 S).length by omega)] at e1 ⊢
      simpa using e1
    · rw [List.getElem?_eq_none (by rw [dataG_length]; omega), List.getElem?_eq_none (by rw [spreadD_length]; omega)]
  · unfold spreadT; rw [if_pos t1, if_pos fa]
end Go.Proofs.Ytpnigmcpifilmaa.P
