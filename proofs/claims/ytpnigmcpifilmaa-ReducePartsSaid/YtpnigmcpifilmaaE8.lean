/- ReduceParts returns true at every input. -/
import Derived.Test.YtpnigmcpifilmaaE7
namespace Go.Proofs.Ytpnigmcpifilmaa.P
open Go.RowKit Go.Proofs.YtpnigmcpifilmaaW.PrintWords Go.Proofs.YtpnigmcpifilmaaW.PrintLast Go.Proofs.YtpnigmcpifilmaaW.PrintMore
set_option linter.unusedVariables false
theorem wf_u8 {n : Int} (h : (Lit.int .u8 n).wf = true) : 0 ≤ n ∧ n < 256 := by
  simp [Lit.wf, IntKind.min, IntKind.max, IntKind.bits, IntKind.signed] at h
  omega
theorem part_allI {d : List Int} (h : allI d) (s : List Int) (a : Nat) (f n : Int) : allI (partD s d a f n) := by
  intro x hx
  unfold partD numsTo at hx
  obtain ⟨p, _, rfl⟩ := List.mem_map.1 hx
  exact rd_I64 h _
theorem redParts_any (A0 : Option Addr) (c0 : Nat) (a1 : List Int) (A1 : Option Addr) (c1 : Nat) (a2 : List Int) (ax at_ : Int) (w : World)
    (r0 : Rd w (.slice A0 a1.length c0) a1) (r1 : Rd w (.slice A1 a2.length c1) a2) (i1 : allI a2) (t0 : 0 ≤ at_) (t1 : at_ < 256) :
    Calls Try.prog 13 #[.agg #[.slice A0 a1.length c0, .slice A1 a2.length c1], .int .i64 ax, .int .u8 at_] w fun e w' => e = .returned (.bool true) ∧ Below w.heap.size w w' := by
  cases g1 : fewB a1 a2
  · exact parts_bad1 A0 c0 a1 A1 c1 a2 ax at_ w r0 r1 i1 g1
  cases g2 : tOk a1 a2
  · exact parts_bad2 A0 c0 a1 A1 c1 a2 ax at_ w r0 r1 i1 g1 g2
  by_cases g3 : ax < 0
  · exact parts_bad3 A0 c0 a1 A1 c1 a2 ax at_ w r0 r1 i1 g1 g2 g3
  by_cases g4 : (a1.length : Int) ≤ ax
  · exact parts_bad4 A0 c0 a1 A1 c1 a2 ax at_ w r0 r1 i1 g1 g2 (by omega) g4
  obtain ⟨a, rfl⟩ := Int.eq_ofNat_of_zero_le (show 0 ≤ ax by omega)
  have ga : a < a1.length := by omega
  by_cases g5 : rd a1 (a : Nat) < 2
  · exact parts_bad5 A0 c0 a1 A1 c1 a2 a at_ w r0 r1 i1 g1 g2 ga g5
  have hl := ((tOk_iff _ _).1 g2).2
  have hl64 := sizeS_le a1
  obtain ⟨k, hk⟩ : ∃ k, 1 + at_ % (rd a1 (a : Nat) - 1) = k := ⟨_, rfl⟩
  have kb : 1 ≤ k ∧ k < rd a1 (a : Nat) := by
    have q1 := Int.emod_nonneg at_ (show rd a1 (a : Nat) - 1 ≠ 0 by omega)
    have q2 := Int.emod_lt_of_pos at_ (show 0 < rd a1 (a : Nat) - 1 by omega)
    omega
  have ia := part_allI i1 a1 a 0 (k - 0)
  have ib := part_allI i1 a1 a k (rd a1 (a : Nat) - k)
  obtain ⟨⟨⟨sx, dx⟩, ex⟩, hx⟩ : ∃ r, sumR (a1.set a (k - 0)) (partD a1 a2 a 0 (k - 0)) (a : Nat) = r := ⟨_, rfl⟩
  obtain ⟨⟨⟨sy, dy⟩, ey⟩, hy⟩ : ∃ r, sumR (a1.set a (rd a1 (a : Nat) - k)) (partD a1 a2 a k (rd a1 (a : Nat) - k)) (a : Nat) = r := ⟨_, rfl⟩
  obtain ⟨⟨⟨ss, ds⟩, es⟩, hs⟩ : ∃ r, sumR a1 a2 (a : Nat) = r := ⟨_, rfl⟩
  obtain ⟨⟨⟨sz, dz⟩, ez⟩, hz⟩ : ∃ r, elemTwo 10 sx dx sy dy = r := ⟨_, rfl⟩
  obtain ⟨⟨⟨sp, dp⟩, ep⟩, hp⟩ : ∃ r, maxR (a1.set a (k - 0)) (partD a1 a2 a 0 (k - 0)) (a : Nat) = r := ⟨_, rfl⟩
  obtain ⟨⟨⟨sq, dq⟩, eq⟩, hq⟩ : ∃ r, maxR (a1.set a (rd a1 (a : Nat) - k)) (partD a1 a2 a k (rd a1 (a : Nat) - k)) (a : Nat) = r := ⟨_, rfl⟩
  obtain ⟨⟨⟨sw, dw⟩, ew⟩, hw⟩ : ∃ r, maxR a1 a2 (a : Nat) = r := ⟨_, rfl⟩
  have lw : dw.length ≤ 64 := by
    obtain ⟨D, e1, e2, _⟩ := max_any a1 a2 a g2 ga
    rw [hw] at e1
    simp only [Prod.mk.injEq] at e1
    obtain ⟨⟨_, rfl⟩, _⟩ := e1
    rw [e2]; exact sizeS_le _
  refine parts_good A0 c0 a1 A1 c1 a2 a at_ w r0 r1 i1 g1 g2 ga (rd a1 (a : Nat)) k rfl (by omega) t0 t1 hk _ _ _ rfl _ _ _ rfl _ _ _ hx _ _ _ hy _ _ _ hs _ _ _ hz _ _ _ hp _ _ _ hq _ _ _ hw ia ib (sum_allI ia hx) (sum_allI ib hy) (by omega) lw (fun hall => ?_)
  obtain ⟨X, Y, Z, P, Q, W, k1, k2, k3, k4, k5, k6, k7, k8, k9, k10⟩ := parts_law g2 ga kb.1 kb.2 hall
  rw [Int.sub_zero] at hx hp
  rw [hx] at k1
  simp only [Prod.mk.injEq] at k1
  obtain ⟨⟨rfl, rfl⟩, rfl⟩ := k1
  rw [hy] at k2
  simp only [Prod.mk.injEq] at k2
  obtain ⟨⟨rfl, rfl⟩, rfl⟩ := k2
  rw [hs] at k3
  simp only [Prod.mk.injEq] at k3
  obtain ⟨⟨rfl, rfl⟩, rfl⟩ := k3
  rw [hz] at k4
  simp only [Prod.mk.injEq] at k4
  obtain ⟨⟨rfl, rfl⟩, rfl⟩ := k4
  rw [hp] at k5
  simp only [Prod.mk.injEq] at k5
  obtain ⟨⟨rfl, rfl⟩, rfl⟩ := k5
  rw [hq] at k6
  simp only [Prod.mk.injEq] at k6
  obtain ⟨⟨rfl, rfl⟩, rfl⟩ := k6
  rw [hw] at k7
  simp only [Prod.mk.injEq] at k7
  obtain ⟨⟨rfl, rfl⟩, rfl⟩ := k7
  exact ⟨⟨rfl, rfl, rfl, rfl, rfl, rfl, rfl, rfl, rfl⟩, k8, k9, k10, sameB_self _ _⟩
end Go.Proofs.Ytpnigmcpifilmaa.P
