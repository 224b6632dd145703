/- ElemTurns returns true at every input. -/
import Derived.Test.YtpnigmcpifilmaaB0
import Derived.Test.YtpnigmcpifilmaaB1
namespace Go.Proofs.Ytpnigmcpifilmaa.P
open Go.RowKit Go.Proofs.YtpnigmcpifilmaaW.PrintWords Go.Proofs.YtpnigmcpifilmaaW.PrintLast Go.Proofs.YtpnigmcpifilmaaW.PrintMore
set_option linter.unusedVariables false
theorem sameB_self (s d : List Int) : sameB s d s d = true := by simp [sameB]
theorem turns_any (A0 : Option Addr) (c0 : Nat) (a1 : List Int) (A1 : Option Addr) (c1 : Nat) (a2 : List Int) (A2 : Option Addr) (c2 : Nat) (b1 : List Int) (A3 : Option Addr) (c3 : Nat) (b2 : List Int) (w : World)
    (r0 : Rd w (.slice A0 a1.length c0) a1) (r1 : Rd w (.slice A1 a2.length c1) a2) (i1 : allI a2) (r2 : Rd w (.slice A2 b1.length c2) b1) (r3 : Rd w (.slice A3 b2.length c3) b2) (i2 : allI b2) :
    Calls Try.prog 3 #[.agg #[.slice A0 a1.length c0, .slice A1 a2.length c1], .agg #[.slice A2 b1.length c2, .slice A3 b2.length c3]] w fun e w' => e = .returned (.bool true) ∧ Below w.heap.size w w' := by
  cases g1 : fewB a1 a2
  · exact turns_bad1 A0 c0 a1 A1 c1 a2 A2 c2 b1 A3 c3 b2 w r0 r1 i1 r2 r3 i2 g1
  cases g2 : fewB b1 b2
  · exact turns_bad2 A0 c0 a1 A1 c1 a2 A2 c2 b1 A3 c3 b2 w r0 r1 i1 r2 r3 i2 g1 g2
  cases g3 : tOk a1 a2
  · exact turns_bad3 A0 c0 a1 A1 c1 a2 A2 c2 b1 A3 c3 b2 w r0 r1 i1 r2 r3 i2 g1 g2 g3
  cases g4 : tOk b1 b2
  · exact turns_bad4 A0 c0 a1 A1 c1 a2 A2 c2 b1 A3 c3 b2 w r0 r1 i1 r2 r3 i2 g1 g2 g3 g4
  obtain ⟨⟨⟨sx, dx⟩, ex⟩, hx⟩ : ∃ r, elemTwo 10 a1 a2 b1 b2 = r := ⟨_, rfl⟩
  have hy : elemTwo 10 b1 b2 a1 a2 = ((sx, dx), ex) := by rw [← two_comm (F := addF) rfl addF_comm]; exact hx
  obtain ⟨⟨⟨sp, dp⟩, ep⟩, hp⟩ : ∃ r, elemTwo 12 a1 a2 b1 b2 = r := ⟨_, rfl⟩
  have hq : elemTwo 12 b1 b2 a1 a2 = ((sp, dp), ep) := by rw [← two_comm (F := mulF) rfl mulF_comm]; exact hp
  have hn : fullT a1 0 = ((a1, List.replicate (sizeS a1) 0), 0) := by unfold fullT; rw [if_pos ((tOk_iff _ _).1 g3).1]
  have hz : elemTwo 11 a1 a2 a1 a2 = ((a1, List.replicate (sizeS a1) 0), 0) := by rw [sub_self g3]; exact hn
  obtain ⟨⟨⟨sk, dk⟩, ek⟩, hk⟩ : ∃ r, elemTwo 11 sx dx b1 b2 = r := ⟨_, rfl⟩
  obtain ⟨⟨⟨sl, dl⟩, el⟩, hl⟩ : ∃ r, spreadT a1 a2 sx = r := ⟨_, rfl⟩
  refine turns_good A0 c0 a1 A1 c1 a2 A2 c2 b1 A3 c3 b2 w r0 r1 i1 r2 r3 i2 g1 g2 g3 g4 _ _ _ hx _ _ _ hy _ _ _ hp _ _ _ hq _ _ _ hz _ _ _ hn _ _ _ hk _ _ _ hl
    (two_allI _ _ _ _ _ hx) (sameB_self _ _) rfl (sameB_self _ _) rfl rfl rfl (sameB_self _ _) (fun h0 => ?_)
  obtain ⟨q1, q2⟩ := add_sub i1 hx h0
  rw [hk] at q1
  rw [hl] at q2
  cases q1
  cases q2
  exact ⟨rfl, rfl, sameB_self _ _⟩
end Go.Proofs.Ytpnigmcpifilmaa.P
