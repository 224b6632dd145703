/- ElemPlaces returns true at every input. -/
import Derived.Test.YtpnigmcpifilmaaB7
import Derived.Test.YtpnigmcpifilmaaB10
namespace Go.Proofs.Ytpnigmcpifilmaa.P
open Go.RowKit Go.Proofs.YtpnigmcpifilmaaW.PrintWords Go.Proofs.YtpnigmcpifilmaaW.PrintLast Go.Proofs.YtpnigmcpifilmaaW.PrintMore
set_option linter.unusedVariables false
theorem wf_u8 {n : Int} (h : (Lit.int .u8 n).wf = true) : 0 ≤ n ∧ n < 256 := by
  simp [Lit.wf, IntKind.min, IntKind.max, IntKind.bits, IntKind.signed] at h
  omega
theorem places_any (A0 : Option Addr) (c0 : Nat) (a1 : List Int) (A1 : Option Addr) (c1 : Nat) (a2 : List Int) (A2 : Option Addr) (c2 : Nat) (b1 : List Int) (A3 : Option Addr) (c3 : Nat) (b2 : List Int) (at_ : Int) (w : World)
    (r0 : Rd w (.slice A0 a1.length c0) a1) (r1 : Rd w (.slice A1 a2.length c1) a2) (i1 : allI a2) (r2 : Rd w (.slice A2 b1.length c2) b1) (r3 : Rd w (.slice A3 b2.length c3) b2) (i2 : allI b2) (t0 : 0 ≤ at_) (t1 : at_ < 256) :
    Calls Try.prog 4 #[.agg #[.slice A0 a1.length c0, .slice A1 a2.length c1], .agg #[.slice A2 b1.length c2, .slice A3 b2.length c3], .int .u8 at_] w fun e w' => e = .returned (.bool true) ∧ Below w.heap.size w w' := by
  cases g1 : fewB a1 a2
  · exact places_bad1 A0 c0 a1 A1 c1 a2 A2 c2 b1 A3 c3 b2 at_ w r0 r1 i1 r2 r3 i2 t0 t1 g1
  cases g2 : fewB b1 b2
  · exact places_bad2 A0 c0 a1 A1 c1 a2 A2 c2 b1 A3 c3 b2 at_ w r0 r1 i1 r2 r3 i2 t0 t1 g1 g2
  obtain ⟨⟨⟨S, D⟩, E⟩, hp⟩ : ∃ r, elemTwo 12 a1 a2 b1 b2 = r := ⟨_, rfl⟩
  by_cases e : E = 0
  · subst e
    obtain ⟨hx, hy, l1, l64, lx, ly, ht, hk⟩ := places_plain i1 i2 hp
    obtain ⟨k, hkk⟩ := Int.eq_ofNat_of_zero_le (Int.emod_nonneg at_ (show (D.length : Int) ≠ 0 by omega))
    have kl : k < D.length := by have := Int.emod_lt_of_pos at_ (show (0 : Int) < D.length by omega); omega
    obtain ⟨h1, h2, h3⟩ := hk k kl
    exact places_good A0 c0 a1 A1 c1 a2 A2 c2 b1 A3 c3 b2 at_ w r0 r1 i1 r2 r3 i2 t0 t1 g1 g2 S D _ _ hp hx hy k hkk kl lx ly l64 h1 h2 h3 ht
  · obtain ⟨rfl, rfl⟩ := two_err hp e
    exact places_err A0 c0 a1 A1 c1 a2 A2 c2 b1 A3 c3 b2 at_ w r0 r1 i1 r2 r3 i2 t0 t1 g1 g2 E hp e
end Go.Proofs.Ytpnigmcpifilmaa.P
