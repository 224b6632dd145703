/- A tensor that came in is two rows of numbers. -/
import Derived.Test.YtpnigmcpifilmaaA18
import Derived.Test.YtpnigmcpifilmaaRows
import Derived.Lib.SmallJoins
import Derived.ProofKit
import Derived.OpenShut
import Derived.ShutString
import Derived.ChangeOld
import Derived.SizedLaws
namespace Go.Proofs.Ytpnigmcpifilmaa.P
open Go.RowKit Go.Joins Go.ChangeShapes Go.WideShapes Go.ChangeAt Go.ChangeMaps Go.Proofs.YtpnigmcpifilmaaW.PrintWords Go.Proofs.YtpnigmcpifilmaaW.PrintLast Go.Proofs.YtpnigmcpifilmaaW.PrintMore
set_option linter.unusedVariables false
set_option linter.unusedSimpArgs false
/-! a tensor that came in -/
theorem wf_i64 {n : Int} (h : (Lit.int .i64 n).wf = true) : isI64 n := by
  simp [Lit.wf, IntKind.min, IntKind.max, IntKind.wrap, IntKind.bits, IntKind.signed] at h
  unfold isI64; omega
theorem slice_arg {H : Type} {enc : TypeId × Value → H} {W : World} {held : Bool} {n : Nat} {v : Value} {y : DataW H × List MemPlace}
    (h : DataW.trod enc Try.prog W 0 (fun _ => true) held n 22 [v] = some y) : ∃ A c s, v = .slice A s.length c ∧ Rd W (.slice A s.length c) s ∧ allI s := by
  rcases open_ints Try.underlying22 Try.underlying3 (by kernel_rfl) h with ⟨hcs, _⟩ | ⟨x, l, c, zs, hcs, _, hl, hm, hz, _, hcell, hwz⟩
  · simp at hcs
    subst hcs
    exact ⟨none, 0, [], rfl, Rd.nil W, fun x hx => by cases hx⟩
  · simp at hcs
    subst hcs
    have hz' : zs.length = c := by simpa using hz
    have hlen : (zs.take l).length = l := by simp; omega
    refine ⟨some x, c, zs.take l, by rw [hlen], ⟨some x, c, rfl, by omega, ?_⟩, fun a ha => wf_i64 (hwz a (List.mem_of_mem_take ha))⟩
    refine toC ⟨rfl, by unfold maxLen at hm; omega, fun hn => ⟨x, rfl, fun j hj => ?_⟩⟩
    have hj' : j < l := by omega
    rw [hcell j (by omega)]
    simp [List.getD_eq_getElem?_getD, List.getElem?_take, hj']
set_option maxRecDepth 1000000 in
theorem tensor_arg {H : Type} {enc : TypeId × Value → H} {W : World} {r : Reach} {b0 : Nat} {held : Bool} {v : Value} {d : DataW H} {p : List MemPlace} (hv : Value.okWide Try.prog W r b0 24 v)
    (h : DataW.Trod enc Try.prog W 0 (fun _ => true) held 24 v d p) :
    ∃ A c s A' c' t, v = .agg #[.slice A s.length c, .slice A' t.length c'] ∧ Rd W (.slice A s.length c) s ∧ Rd W (.slice A' t.length c') t ∧ allI t := by
  obtain ⟨c0, c1, y0, y1, m, rfl, rfl, rfl, hy0, hy1⟩ := open_agg2 Try.underlying24 (by kernel_rfl) (by kernel_rfl) hv h
  obtain ⟨A, c, s, rfl, h1, _⟩ := slice_arg hy0
  obtain ⟨A', c', t, rfl, h2, h3⟩ := slice_arg hy1
  exact ⟨A, c, s, A', c', t, rfl, h1, h2, h3⟩
end Go.Proofs.Ytpnigmcpifilmaa.P
