/- ElemDoubles returns true at every input. -/
import Derived.Test.YtpnigmcpifilmaaB12
import Derived.Test.YtpnigmcpifilmaaB9
namespace Go.Proofs.Ytpnigmcpifilmaa.P
open Go.RowKit Go.Proofs.YtpnigmcpifilmaaW.PrintWords Go.Proofs.YtpnigmcpifilmaaW.PrintLast Go.Proofs.YtpnigmcpifilmaaW.PrintMore
set_option linter.unusedVariables false
theorem isq_lt (n : Nat) (h : n < 39614081257132168796771975168) : isq n < 281474976710656 := by
  have h1 := (isq_spec n).1
  by_cases h2 : isq n < 281474976710656
  · exact h2
  · have h3 : 281474976710656 * 281474976710656 ≤ isq n * isq n := Nat.mul_le_mul (by omega) (by omega)
    omega
theorem sqrt_I64 (x : Int) (h : isI64 x) : isI64 (sqrtF x).1 := by
  unfold sqrtF isI64 at *
  split
  · simp only; omega
  · have := isq_lt (x.toNat * 4294967296) (by omega)
    simp only; omega
theorem doubles_any (A0 : Option Addr) (c0 : Nat) (a1 : List Int) (A1 : Option Addr) (c1 : Nat) (a2 : List Int) (A2 : Option Addr) (c2 : Nat) (b1 : List Int) (A3 : Option Addr) (c3 : Nat) (b2 : List Int) (w : World)
    (r0 : Rd w (.slice A0 a1.length c0) a1) (r1 : Rd w (.slice A1 a2.length c1) a2) (i1 : allI a2) (r2 : Rd w (.slice A2 b1.length c2) b1) (r3 : Rd w (.slice A3 b2.length c3) b2) (i2 : allI b2) :
    Calls Try.prog 6 #[.agg #[.slice A0 a1.length c0, .slice A1 a2.length c1], .agg #[.slice A2 b1.length c2, .slice A3 b2.length c3]] w fun e w' => e = .returned (.bool true) ∧ Below w.heap.size w w' := by
  cases g1 : fewB a1 a2
  · exact doubles_bad1 A0 c0 a1 A1 c1 a2 A2 c2 b1 A3 c3 b2 w r0 r1 i1 r2 r3 i2 g1
  cases g2 : fewB b1 b2
  · exact doubles_bad2 A0 c0 a1 A1 c1 a2 A2 c2 b1 A3 c3 b2 w r0 r1 i1 r2 r3 i2 g1 g2
  cases g3 : tOk a1 a2
  · exact doubles_bad3 A0 c0 a1 A1 c1 a2 A2 c2 b1 A3 c3 b2 w r0 r1 i1 r2 r3 i2 g1 g2 g3
  cases g4 : tOk b1 b2
  · exact doubles_bad4 A0 c0 a1 A1 c1 a2 A2 c2 b1 A3 c3 b2 w r0 r1 i1 r2 r3 i2 g1 g2 g3 g4
  have hl := ((tOk_iff _ _).1 g3).2
  have hl64 := sizeS_le a1
  obtain ⟨⟨⟨ss, ds⟩, es⟩, hs⟩ : ∃ r, elemTwo 10 a1 a2 a1 a2 = r := ⟨_, rfl⟩
  have ht := twice_any g3
  rw [hs] at ht
  obtain ⟨⟨⟨sd, dd⟩, ed⟩, hd⟩ : ∃ r, elemTwo 11 a1 a2 b1 b2 = r := ⟨_, rfl⟩
  obtain ⟨⟨⟨sc, dc⟩, ec⟩, hc⟩ : ∃ r, elemTwo 11 b1 b2 a1 a2 = r := ⟨_, rfl⟩
  obtain ⟨⟨⟨sn, dn⟩, en⟩, hn⟩ : ∃ r, elemOne 20 sc dc = r := ⟨_, rfl⟩
  obtain ⟨⟨⟨sr, dr⟩, er⟩, hr⟩ : ∃ r, elemOne 23 a1 a2 = r := ⟨_, rfl⟩
  obtain ⟨⟨⟨sq, dq⟩, eq⟩, hq⟩ : ∃ r, elemTwo 12 sr dr sr dr = r := ⟨_, rfl⟩
  have ic : allI dc := two_allI 11 _ _ _ _ hc
  have ir : allI dr := one_allI 23 i1 hr (fun F hF x hx => by cases hF; exact sqrt_I64 x hx)
  have e3 : ed = 0 → ec = 0 → en = 0 ∧ sameB sd dd sn dn = true := fun h1 h2 => by
    have := sub_turned i1 i2 hd h1 hc h2
    rw [hn] at this
    simp only [Prod.mk.injEq] at this
    obtain ⟨⟨q1, q2⟩, q3⟩ := this
    subst q1 q2
    exact ⟨q3, sameB_self _ _⟩
  by_cases j : er = 0
  · obtain ⟨Q, k1, k2, k3⟩ := roots i1 hr j
    rw [hq] at k1
    simp only [Prod.mk.injEq] at k1
    obtain ⟨⟨q1, q2⟩, q3⟩ := k1
    subst q2
    exact doubles_good1 A0 c0 a1 A1 c1 a2 A2 c2 b1 A3 c3 b2 w r0 r1 i1 r2 r3 i2 g1 g2 g3 g4 _ _ _ hs _ _ _ ht _ _ _ hd _ _ _ hc _ _ _ hn _ _ _ hr _ _ _ hq ic ir (by omega) rfl (sameB_self _ _) e3 j q3 k2 k3
  · exact doubles_good0 A0 c0 a1 A1 c1 a2 A2 c2 b1 A3 c3 b2 w r0 r1 i1 r2 r3 i2 g1 g2 g3 g4 _ _ _ hs _ _ _ ht _ _ _ hd _ _ _ hc _ _ _ hn _ _ _ hr _ _ _ hq ic ir (by omega) rfl (sameB_self _ _) e3 j
end Go.Proofs.Ytpnigmcpifilmaa.P
