/- Plain laws of three tensors that are added. -/
import Derived.Test.YtpnigmcpifilmaaB0
namespace Go.Proofs.Ytpnigmcpifilmaa.P
open Go.RowKit Go.Proofs.YtpnigmcpifilmaaW.PrintWords Go.Proofs.YtpnigmcpifilmaaW.PrintLast Go.Proofs.YtpnigmcpifilmaaW.PrintMore
set_option linter.unusedVariables false
theorem list_rd (l l' : List Int) (hl : l.length = l'.length) (h : ∀ k : Nat, k < l.length → rd l k = rd l' k) : l = l' := by
  apply List.ext_getElem hl
  intro i h1 h2
  have := h i h1
  unfold rd at this
  simp only [Int.toNat_natCast, List.getD_eq_getElem?_getD] at this
  rw [List.getElem?_eq_getElem h1, List.getElem?_eq_getElem h2] at this
  simpa using this
theorem addF_val {x y : Int} (h : (addF x y).2 = 0) : addF x y = (x + y, 0) := by
  unfold addF at *
  rw [toldF_2] at h
  rw [h]; rfl
/-- What a sum without an error is. -/
theorem two_add {a1 a2 b1 b2 S D : List Int} {E : Int} (h : elemTwo 10 a1 a2 b1 b2 = ((S, D), E)) (he : E = 0) :
    joinOk a1 b1 = true ∧ S = joinL a1 b1 ∧ tOk S D = true ∧ fitsS a1 S = true ∧ fitsS b1 S = true ∧ ∀ k : Nat, k < sizeS S → rd D k = rd a2 (fromS a1 S k) + rd b2 (fromS b1 S k) := by
  obtain ⟨t1, t2, hj, hS, hD, hz⟩ := two_inv (F := addF) rfl h he
  have fa : fitsS a1 S = true := by rw [hS]; exact fits_join hj
  have fb : fitsS b1 S = true := by rw [hS]; exact fits_join' hj
  refine ⟨hj, hS, by rw [tOk_iff]; exact ⟨(fits_parts fa).2.1, by rw [hD, dataG_length]⟩, fa, fb, fun k hk => ?_⟩
  have hz' := hz k hk
  rw [hD, rd_dataG _ _ _ hk]
  unfold twoG at hz' ⊢
  rw [addF_val hz', spread_rd _ _ _ _ hk, spread_rd _ _ _ _ hk]
theorem from_nat {a s : List Int} (hf : fitsS a s = true) (k : Nat) : ∃ j : Nat, fromS a s k = (j : Int) ∧ j < sizeS a := by
  obtain ⟨f1, f2, _, f4⟩ := fits_parts hf
  have fl := fromS_lt a s (k : Int) f4 f1 f2 (by omega)
  obtain ⟨j, hj⟩ := Int.eq_ofNat_of_zero_le fl.1
  rw [hj] at fl
  exact ⟨j, hj, by omega⟩
theorem three_law {a1 a2 b1 b2 f1 f2 sx dx sy dy sz dz sv dv : List Int} {ex ey ez ev : Int} (hx : elemTwo 10 a1 a2 b1 b2 = ((sx, dx), ex)) (hy : elemTwo 10 sx dx f1 f2 = ((sy, dy), ey)) (hz : elemTwo 10 b1 b2 f1 f2 = ((sz, dz), ez)) (hv : elemTwo 10 a1 a2 sz dz = ((sv, dv), ev))
    (h1 : ex = 0) (h2 : ey = 0) (h3 : ez = 0) (h4 : ev = 0) : sameB sy dy sv dv = true ∧ tOk sy dy = true := by
  obtain ⟨_, x2, x3, x4, x5, x6⟩ := two_add hx h1
  obtain ⟨_, y2, y3, y4, y5, y6⟩ := two_add hy h2
  obtain ⟨_, z2, z3, z4, z5, z6⟩ := two_add hz h3
  obtain ⟨_, v2, v3, v4, v5, v6⟩ := two_add hv h4
  have hs : sy = sv := by rw [y2, v2, x2, z2, join_assoc]
  subst hs
  have hd : dy = dv := by
    have l1 := ((tOk_iff _ _).1 y3).2
    have l2 := ((tOk_iff _ _).1 v3).2
    refine list_rd _ _ (by omega) (fun k hk => ?_)
    rw [y6 k (by omega), v6 k (by omega)]
    obtain ⟨i, hi, hi2⟩ := from_nat y4 k
    obtain ⟨j, hj, hj2⟩ := from_nat v5 k
    have t1 := fromS_trans x4 y4 k
    have t2 := fromS_trans x5 y4 k
    have t3 := fromS_trans z4 v5 k
    have t4 := fromS_trans z5 v5 k
    rw [hi] at t1 t2 ⊢
    rw [hj] at t3 t4 ⊢
    rw [x6 i hi2, z6 j hj2, t1, t2, t3, t4]
    omega
  subst hd
  exact ⟨by simp [sameB], y3⟩
end Go.Proofs.Ytpnigmcpifilmaa.P
