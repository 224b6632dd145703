/- The walk of ElemThree. -/
import Derived.Test.YtpnigmcpifilmaaA19
namespace Go.Proofs.Ytpnigmcpifilmaa.P
open Go.RowKit Go.Shelf Go.Proofs.YtpnigmcpifilmaaW.PrintWords Go.Proofs.YtpnigmcpifilmaaW.PrintLast Go.Proofs.YtpnigmcpifilmaaW.PrintMore
set_option linter.unusedVariables false
set_option linter.unusedSimpArgs false
set_option maxHeartbeats 4000000
set_option maxRecDepth 100000 in
theorem three_bad1 (A0 : Option Addr) (c0 : Nat) (a1 : List Int) (A1 : Option Addr) (c1 : Nat) (a2 : List Int) (A2 : Option Addr) (c2 : Nat) (b1 : List Int) (A3 : Option Addr) (c3 : Nat) (b2 : List Int) (A4 : Option Addr) (c4 : Nat) (f1 : List Int) (A5 : Option Addr) (c5 : Nat) (f2 : List Int) (w : World)
    (r0 : Rd w (.slice A0 a1.length c0) a1) (r1 : Rd w (.slice A1 a2.length c1) a2) (i1 : allI a2) (r2 : Rd w (.slice A2 b1.length c2) b1) (r3 : Rd w (.slice A3 b2.length c3) b2) (i2 : allI b2) (r4 : Rd w (.slice A4 f1.length c4) f1) (r5 : Rd w (.slice A5 f2.length c5) f2) (i3 : allI f2) (g : fewB a1 a2 = false) :
    Calls Try.prog 8 #[.agg #[.slice A0 a1.length c0, .slice A1 a2.length c1], .agg #[.slice A2 b1.length c2, .slice A3 b2.length c3], .agg #[.slice A4 f1.length c4, .slice A5 f2.length c5]] w fun e w' => e = .returned (.bool true) ∧ Below w.heap.size w w' := by
  have G1 := Aside0.mk g
  clear g 
  have RD_a0 := Aside0.mk r0
  have RD_a1 := Aside0.mk r1
  have RD_b0 := Aside0.mk r2
  have RD_b1 := Aside0.mk r3
  have RD_c0 := Aside0.mk r4
  have RD_c1 := Aside0.mk r5
  have I1 := Aside0.mk i1
  have I2 := Aside0.mk i2
  have I3 := Aside0.mk i3
  clear r0 r1 r2 r3 r4 r5 i1 i2 i3
  have BW : Aside0 (Below w.heap.size w w) := ⟨Below.refl _ _⟩
  go_enter Try.func8, Try.ntmps8
  obtain ⟨u1, hu1⟩ : ∃ u, (((w.alloc (Obj.cells #[.slice A0 a1.length c0, .slice A1 a2.length c1] 24)).alloc (Obj.cells #[.slice A2 b1.length c2, .slice A3 b2.length c3] 24)).alloc (Obj.cells #[.slice A4 f1.length c4, .slice A5 f2.length c5] 24)) = u := ⟨_, rfl⟩
  have hbu1 : Below w.heap.size w u1 := by rw [← hu1]; exact below_fold w [Obj.cells #[.slice A0 a1.length c0, .slice A1 a2.length c1] 24, Obj.cells #[.slice A2 b1.length c2, .slice A3 b2.length c3] 24, Obj.cells #[.slice A4 f1.length c4, .slice A5 f2.length c5] 24]
  have BX_a : Aside0 (u1.heap[w.heap.size]? = some (.cells #[.slice A0 a1.length c0, .slice A1 a2.length c1] 24 (0, 0))) := ⟨by rw [← hu1]; exact blk_fold w [Obj.cells #[.slice A0 a1.length c0, .slice A1 a2.length c1] 24, Obj.cells #[.slice A2 b1.length c2, .slice A3 b2.length c3] 24, Obj.cells #[.slice A4 f1.length c4, .slice A5 f2.length c5] 24] 0 _ rfl⟩
  have BX_b : Aside0 (u1.heap[w.heap.size + 1]? = some (.cells #[.slice A2 b1.length c2, .slice A3 b2.length c3] 24 (0, 0))) := ⟨by rw [← hu1]; exact blk_fold w [Obj.cells #[.slice A0 a1.length c0, .slice A1 a2.length c1] 24, Obj.cells #[.slice A2 b1.length c2, .slice A3 b2.length c3] 24, Obj.cells #[.slice A4 f1.length c4, .slice A5 f2.length c5] 24] 1 _ rfl⟩
  have BX_c : Aside0 (u1.heap[w.heap.size + 2]? = some (.cells #[.slice A4 f1.length c4, .slice A5 f2.length c5] 24 (0, 0))) := ⟨by rw [← hu1]; exact blk_fold w [Obj.cells #[.slice A0 a1.length c0, .slice A1 a2.length c1] 24, Obj.cells #[.slice A2 b1.length c2, .slice A3 b2.length c3] 24, Obj.cells #[.slice A4 f1.length c4, .slice A5 f2.length c5] 24] 2 _ rfl⟩
  have Hu1 := Aside0.mk hu1
  replace RD_a0 := Aside0.mk (RD_a0.out.below hbu1)
  replace RD_a1 := Aside0.mk (RD_a1.out.below hbu1)
  replace RD_b0 := Aside0.mk (RD_b0.out.below hbu1)
  replace RD_b1 := Aside0.mk (RD_b1.out.below hbu1)
  replace RD_c0 := Aside0.mk (RD_c0.out.below hbu1)
  replace RD_c1 := Aside0.mk (RD_c1.out.below hbu1)
  replace BW := Aside0.mk (below_then BW.out BW.out.size hbu1)
  clear hbu1 hu1
  go_wp2_with fail
  rw [Hu1.out]
  clear Hu1
  refine (awake04 _).mono ?_
  rintro e v2 ⟨rfl, hb⟩
  replace BX_a := Aside0.mk (blk_below BX_a.out hb)
  replace BX_b := Aside0.mk (blk_below BX_b.out hb)
  replace BX_c := Aside0.mk (blk_below BX_c.out hb)
  replace RD_a0 := Aside0.mk (RD_a0.out.below hb)
  replace RD_a1 := Aside0.mk (RD_a1.out.below hb)
  replace RD_b0 := Aside0.mk (RD_b0.out.below hb)
  replace RD_b1 := Aside0.mk (RD_b1.out.below hb)
  replace RD_c0 := Aside0.mk (RD_c0.out.below hb)
  replace RD_c1 := Aside0.mk (RD_c1.out.below hb)
  replace BW := Aside0.mk (below_then BW.out BW.out.size hb)
  clear hb
  have q3 : v2.cell? ⟨w.heap.size, 0, none⟩ = some (.slice A0 a1.length c0) := (blk_cell BX_a.out 0).trans rfl
  have q4 : v2.cell? ⟨w.heap.size, 1, none⟩ = some (.slice A1 a2.length c1) := (blk_cell BX_a.out 1).trans rfl
  go_wp2_with fail
  clear q3 q4
  refine (few_r (b := false) (s := a1) (d := a2) G1.out).mono ?_
  rintro e v5 ⟨rfl, hb⟩
  replace BX_a := Aside0.mk (blk_below BX_a.out hb)
  replace BX_b := Aside0.mk (blk_below BX_b.out hb)
  replace BX_c := Aside0.mk (blk_below BX_c.out hb)
  replace RD_a0 := Aside0.mk (RD_a0.out.below hb)
  replace RD_a1 := Aside0.mk (RD_a1.out.below hb)
  replace RD_b0 := Aside0.mk (RD_b0.out.below hb)
  replace RD_b1 := Aside0.mk (RD_b1.out.below hb)
  replace RD_c0 := Aside0.mk (RD_c0.out.below hb)
  replace RD_c1 := Aside0.mk (RD_c1.out.below hb)
  replace BW := Aside0.mk (below_then BW.out BW.out.size hb)
  clear hb
  go_wp2_with fail
  go_ret
  exact ⟨rfl, BW.out⟩
set_option maxRecDepth 100000 in
theorem three_bad2 (A0 : Option Addr) (c0 : Nat) (a1 : List Int) (A1 : Option Addr) (c1 : Nat) (a2 : List Int) (A2 : Option Addr) (c2 : Nat) (b1 : List Int) (A3 : Option Addr) (c3 : Nat) (b2 : List Int) (A4 : Option Addr) (c4 : Nat) (f1 : List Int) (A5 : Option Addr) (c5 : Nat) (f2 : List Int) (w : World)
    (r0 : Rd w (.slice A0 a1.length c0) a1) (r1 : Rd w (.slice A1 a2.length c1) a2) (i1 : allI a2) (r2 : Rd w (.slice A2 b1.length c2) b1) (r3 : Rd w (.slice A3 b2.length c3) b2) (i2 : allI b2) (r4 : Rd w (.slice A4 f1.length c4) f1) (r5 : Rd w (.slice A5 f2.length c5) f2) (i3 : allI f2) (g1 : fewB a1 a2 = true) (g : fewB b1 b2 = false) :
    Calls Try.prog 8 #[.agg #[.slice A0 a1.length c0, .slice A1 a2.length c1], .agg #[.slice A2 b1.length c2, .slice A3 b2.length c3], .agg #[.slice A4 f1.length c4, .slice A5 f2.length c5]] w fun e w' => e = .returned (.bool true) ∧ Below w.heap.size w w' := by
  have G1 := Aside0.mk g1
  have G2 := Aside0.mk g
  clear g g1
  have RD_a0 := Aside0.mk r0
  have RD_a1 := Aside0.mk r1
  have RD_b0 := Aside0.mk r2
  have RD_b1 := Aside0.mk r3
  have RD_c0 := Aside0.mk r4
  have RD_c1 := Aside0.mk r5
  have I1 := Aside0.mk i1
  have I2 := Aside0.mk i2
  have I3 := Aside0.mk i3
  clear r0 r1 r2 r3 r4 r5 i1 i2 i3
  have BW : Aside0 (Below w.heap.size w w) := ⟨Below.refl _ _⟩
  go_enter Try.func8, Try.ntmps8
  obtain ⟨u1, hu1⟩ : ∃ u, (((w.alloc (Obj.cells #[.slice A0 a1.length c0, .slice A1 a2.length c1] 24)).alloc (Obj.cells #[.slice A2 b1.length c2, .slice A3 b2.length c3] 24)).alloc (Obj.cells #[.slice A4 f1.length c4, .slice A5 f2.length c5] 24)) = u := ⟨_, rfl⟩
  have hbu1 : Below w.heap.size w u1 := by rw [← hu1]; exact below_fold w [Obj.cells #[.slice A0 a1.length c0, .slice A1 a2.length c1] 24, Obj.cells #[.slice A2 b1.length c2, .slice A3 b2.length c3] 24, Obj.cells #[.slice A4 f1.length c4, .slice A5 f2.length c5] 24]
  have BX_a : Aside0 (u1.heap[w.heap.size]? = some (.cells #[.slice A0 a1.length c0, .slice A1 a2.length c1] 24 (0, 0))) := ⟨by rw [← hu1]; exact blk_fold w [Obj.cells #[.slice A0 a1.length c0, .slice A1 a2.length c1] 24, Obj.cells #[.slice A2 b1.length c2, .slice A3 b2.length c3] 24, Obj.cells #[.slice A4 f1.length c4, .slice A5 f2.length c5] 24] 0 _ rfl⟩
  have BX_b : Aside0 (u1.heap[w.heap.size + 1]? = some (.cells #[.slice A2 b1.length c2, .slice A3 b2.length c3] 24 (0, 0))) := ⟨by rw [← hu1]; exact blk_fold w [Obj.cells #[.slice A0 a1.length c0, .slice A1 a2.length c1] 24, Obj.cells #[.slice A2 b1.length c2, .slice A3 b2.length c3] 24, Obj.cells #[.slice A4 f1.length c4, .slice A5 f2.length c5] 24] 1 _ rfl⟩
  have BX_c : Aside0 (u1.heap[w.heap.size + 2]? = some (.cells #[.slice A4 f1.length c4, .slice A5 f2.length c5] 24 (0, 0))) := ⟨by rw [← hu1]; exact blk_fold w [Obj.cells #[.slice A0 a1.length c0, .slice A1 a2.length c1] 24, Obj.cells #[.slice A2 b1.length c2, .slice A3 b2.length c3] 24, Obj.cells #[.slice A4 f1.length c4, .slice A5 f2.length c5] 24] 2 _ rfl⟩
  have Hu1 := Aside0.mk hu1
  replace RD_a0 := Aside0.mk (RD_a0.out.below hbu1)
  replace RD_a1 := Aside0.mk (RD_a1.out.below hbu1)
  replace RD_b0 := Aside0.mk (RD_b0.out.below hbu1)
  replace RD_b1 := Aside0.mk (RD_b1.out.below hbu1)
  replace RD_c0 := Aside0.mk (RD_c0.out.below hbu1)
  replace RD_c1 := Aside0.mk (RD_c1.out.below hbu1)
  replace BW := Aside0.mk (below_then BW.out BW.out.size hbu1)
  clear hbu1 hu1
  go_wp2_with fail
  rw [Hu1.out]
  clear Hu1
  refine (awake04 _).mono ?_
  rintro e v2 ⟨rfl, hb⟩
  replace BX_a := Aside0.mk (blk_below BX_a.out hb)
  replace BX_b := Aside0.mk (blk_below BX_b.out hb)
  replace BX_c := Aside0.mk (blk_below BX_c.out hb)
  replace RD_a0 := Aside0.mk (RD_a0.out.below hb)
  replace RD_a1 := Aside0.mk (RD_a1.out.below hb)
  replace RD_b0 := Aside0.mk (RD_b0.out.below hb)
  replace RD_b1 := Aside0.mk (RD_b1.out.below hb)
  replace RD_c0 := Aside0.mk (RD_c0.out.below hb)
  replace RD_c1 := Aside0.mk (RD_c1.out.below hb)
  replace BW := Aside0.mk (below_then BW.out BW.out.size hb)
  clear hb
  have q3 : v2.cell? ⟨w.heap.size, 0, none⟩ = some (.slice A0 a1.length c0) := (blk_cell BX_a.out 0).trans rfl
  have q4 : v2.cell? ⟨w.heap.size, 1, none⟩ = some (.slice A1 a2.length c1) := (blk_cell BX_a.out 1).trans rfl
  go_wp2_with fail
  clear q3 q4
  refine (few_r (b := true) (s := a1) (d := a2) G1.out).mono ?_
  rintro e v5 ⟨rfl, hb⟩
  replace BX_a := Aside0.mk (blk_below BX_a.out hb)
  replace BX_b := Aside0.mk (blk_below BX_b.out hb)
  replace BX_c := Aside0.mk (blk_below BX_c.out hb)
  replace RD_a0 := Aside0.mk (RD_a0.out.below hb)
  replace RD_a1 := Aside0.mk (RD_a1.out.below hb)
  replace RD_b0 := Aside0.mk (RD_b0.out.below hb)
  replace RD_b1 := Aside0.mk (RD_b1.out.below hb)
  replace RD_c0 := Aside0.mk (RD_c0.out.below hb)
  replace RD_c1 := Aside0.mk (RD_c1.out.below hb)
  replace BW := Aside0.mk (below_then BW.out BW.out.size hb)
  clear hb
  have q6 : v5.cell? ⟨w.heap.size + 1, 0, none⟩ = some (.slice A2 b1.length c2) := (blk_cell BX_b.out 0).trans rfl
  have q7 : v5.cell? ⟨w.heap.size + 1, 1, none⟩ = some (.slice A3 b2.length c3) := (blk_cell BX_b.out 1).trans rfl
  go_wp2_with fail
  clear q6 q7
  refine (few_r (b := false) (s := b1) (d := b2) G2.out).mono ?_
  rintro e v8 ⟨rfl, hb⟩
  replace BX_a := Aside0.mk (blk_below BX_a.out hb)
  replace BX_b := Aside0.mk (blk_below BX_b.out hb)
  replace BX_c := Aside0.mk (blk_below BX_c.out hb)
  replace RD_a0 := Aside0.mk (RD_a0.out.below hb)
  replace RD_a1 := Aside0.mk (RD_a1.out.below hb)
  replace RD_b0 := Aside0.mk (RD_b0.out.below hb)
  replace RD_b1 := Aside0.mk (RD_b1.out.below hb)
  replace RD_c0 := Aside0.mk (RD_c0.out.below hb)
  replace RD_c1 := Aside0.mk (RD_c1.out.below hb)
  replace BW := Aside0.mk (below_then BW.out BW.out.size hb)
  clear hb
  go_wp2_with fail
  go_ret
  exact ⟨rfl, BW.out⟩
set_option maxRecDepth 100000 in
theorem three_bad3 (A0 : Option Addr) (c0 : Nat) (a1 : List Int) (A1 : Option Addr) (c1 : Nat) (a2 : List Int) (A2 : Option Addr) (c2 : Nat) (b1 : List Int) (A3 : Option Addr) (c3 : Nat) (b2 : List Int) (A4 : Option Addr) (c4 : Nat) (f1 : List Int) (A5 : Option Addr) (c5 : Nat) (f2 : List Int) (w : World)
    (r0 : Rd w (.slice A0 a1.length c0) a1) (r1 : Rd w (.slice A1 a2.length c1) a2) (i1 : allI a2) (r2 : Rd w (.slice A2 b1.length c2) b1) (r3 : Rd w (.slice A3 b2.length c3) b2) (i2 : allI b2) (r4 : Rd w (.slice A4 f1.length c4) f1) (r5 : Rd w (.slice A5 f2.length c5) f2) (i3 : allI f2) (g1 : fewB a1 a2 = true) (g2 : fewB b1 b2 = true) (g : fewB f1 f2 = false) :
    Calls Try.prog 8 #[.agg #[.slice A0 a1.length c0, .slice A1 a2.length c1], .agg #[.slice A2 b1.length c2, .slice A3 b2.length c3], .agg #[.slice A4 f1.length c4, .slice A5 f2.length c5]] w fun e w' => e = .returned (.bool true) ∧ Below w.heap.size w w' := by
  have G1 := Aside0.mk g1
  have G2 := Aside0.mk g2
  have G3 := Aside0.mk g
  clear g g1 g2
  have RD_a0 := Aside0.mk r0
  have RD_a1 := Aside0.mk r1
  have RD_b0 := Aside0.mk r2
  have RD_b1 := Aside0.mk r3
  have RD_c0 := Aside0.mk r4
  have RD_c1 := Aside0.mk r5
  have I1 := Aside0.mk i1
  have I2 := Aside0.mk i2
  have I3 := Aside0.mk i3
  clear r0 r1 r2 r3 r4 r5 i1 i2 i3
  have BW : Aside0 (Below w.heap.size w w) := ⟨Below.refl _ _⟩
  go_enter Try.func8, Try.ntmps8
  obtain ⟨u1, hu1⟩ : ∃ u, (((w.alloc (Obj.cells #[.slice A0 a1.length c0, .slice A1 a2.length c1] 24)).alloc (Obj.cells #[.slice A2 b1.length c2, .slice A3 b2.length c3] 24)).alloc (Obj.cells #[.slice A4 f1.length c4, .slice A5 f2.length c5] 24)) = u := ⟨_, rfl⟩
  have hbu1 : Below w.heap.size w u1 := by rw [← hu1]; exact below_fold w [Obj.cells #[.slice A0 a1.length c0, .slice A1 a2.length c1] 24, Obj.cells #[.slice A2 b1.length c2, .slice A3 b2.length c3] 24, Obj.cells #[.slice A4 f1.length c4, .slice A5 f2.length c5] 24]
  have BX_a : Aside0 (u1.heap[w.heap.size]? = some (.cells #[.slice A0 a1.length c0, .slice A1 a2.length c1] 24 (0, 0))) := ⟨by rw [← hu1]; exact blk_fold w [Obj.cells #[.slice A0 a1.length c0, .slice A1 a2.length c1] 24, Obj.cells #[.slice A2 b1.length c2, .slice A3 b2.length c3] 24, Obj.cells #[.slice A4 f1.length c4, .slice A5 f2.length c5] 24] 0 _ rfl⟩
  have BX_b : Aside0 (u1.heap[w.heap.size + 1]? = some (.cells #[.slice A2 b1.length c2, .slice A3 b2.length c3] 24 (0, 0))) := ⟨by rw [← hu1]; exact blk_fold w [Obj.cells #[.slice A0 a1.length c0, .slice A1 a2.length c1] 24, Obj.cells #[.slice A2 b1.length c2, .slice A3 b2.length c3] 24, Obj.cells #[.slice A4 f1.length c4, .slice A5 f2.length c5] 24] 1 _ rfl⟩
  have BX_c : Aside0 (u1.heap[w.heap.size + 2]? = some (.cells #[.slice A4 f1.length c4, .slice A5 f2.length c5] 24 (0, 0))) := ⟨by rw [← hu1]; exact blk_fold w [Obj.cells #[.slice A0 a1.length c0, .slice A1 a2.length c1] 24, Obj.cells #[.slice A2 b1.length c2, .slice A3 b2.length c3] 24, Obj.cells #[.slice A4 f1.length c4, .slice A5 f2.length c5] 24] 2 _ rfl⟩
  have Hu1 := Aside0.mk hu1
  replace RD_a0 := Aside0.mk (RD_a0.out.below hbu1)
  replace RD_a1 := Aside0.mk (RD_a1.out.below hbu1)
  replace RD_b0 := Aside0.mk (RD_b0.out.below hbu1)
  replace RD_b1 := Aside0.mk (RD_b1.out.below hbu1)
  replace RD_c0 := Aside0.mk (RD_c0.out.below hbu1)
  replace RD_c1 := Aside0.mk (RD_c1.out.below hbu1)
  replace BW := Aside0.mk (below_then BW.out BW.out.size hbu1)
  clear hbu1 hu1
  go_wp2_with fail
  rw [Hu1.out]
  clear Hu1
  refine (awake04 _).mono ?_
  rintro e v2 ⟨rfl, hb⟩
  replace BX_a := Aside0.mk (blk_below BX_a.out hb)
  replace BX_b := Aside0.mk (blk_below BX_b.out hb)
  replace BX_c := Aside0.mk (blk_below BX_c.out hb)
  replace RD_a0 := Aside0.mk (RD_a0.out.below hb)
  replace RD_a1 := Aside0.mk (RD_a1.out.below hb)
  replace RD_b0 := Aside0.mk (RD_b0.out.below hb)
  replace RD_b1 := Aside0.mk (RD_b1.out.below hb)
  replace RD_c0 := Aside0.mk (RD_c0.out.below hb)
  replace RD_c1 := Aside0.mk (RD_c1.out.below hb)
  replace BW := Aside0.mk (below_then BW.out BW.out.size hb)
  clear hb
  have q3 : v2.cell? ⟨w.heap.size, 0, none⟩ = some (.slice A0 a1.length c0) := (blk_cell BX_a.out 0).trans rfl
  have q4 : v2.cell? ⟨w.heap.size, 1, none⟩ = some (.slice A1 a2.length c1) := (blk_cell BX_a.out 1).trans rfl
  go_wp2_with fail
  clear q3 q4
  refine (few_r (b := true) (s := a1) (d := a2) G1.out).mono ?_
  rintro e v5 ⟨rfl, hb⟩
  replace BX_a := Aside0.mk (blk_below BX_a.out hb)
  replace BX_b := Aside0.mk (blk_below BX_b.out hb)
  replace BX_c := Aside0.mk (blk_below BX_c.out hb)
  replace RD_a0 := Aside0.mk (RD_a0.out.below hb)
  replace RD_a1 := Aside0.mk (RD_a1.out.below hb)
  replace RD_b0 := Aside0.mk (RD_b0.out.below hb)
  replace RD_b1 := Aside0.mk (RD_b1.out.below hb)
  replace RD_c0 := Aside0.mk (RD_c0.out.below hb)
  replace RD_c1 := Aside0.mk (RD_c1.out.below hb)
  replace BW := Aside0.mk (below_then BW.out BW.out.size hb)
  clear hb
  have q6 : v5.cell? ⟨w.heap.size + 1, 0, none⟩ = some (.slice A2 b1.length c2) := (blk_cell BX_b.out 0).trans rfl
  have q7 : v5.cell? ⟨w.heap.size + 1, 1, none⟩ = some (.slice A3 b2.length c3) := (blk_cell BX_b.out 1).trans rfl
  go_wp2_with fail
  clear q6 q7
  refine (few_r (b := true) (s := b1) (d := b2) G2.out).mono ?_
  rintro e v8 ⟨rfl, hb⟩
  replace BX_a := Aside0.mk (blk_below BX_a.out hb)
  replace BX_b := Aside0.mk (blk_below BX_b.out hb)
  replace BX_c := Aside0.mk (blk_below BX_c.out hb)
  replace RD_a0 := Aside0.mk (RD_a0.out.below hb)
  replace RD_a1 := Aside0.mk (RD_a1.out.below hb)
  replace RD_b0 := Aside0.mk (RD_b0.out.below hb)
  replace RD_b1 := Aside0.mk (RD_b1.out.below hb)
  replace RD_c0 := Aside0.mk (RD_c0.out.below hb)
  replace RD_c1 := Aside0.mk (RD_c1.out.below hb)
  replace BW := Aside0.mk (below_then BW.out BW.out.size hb)
  clear hb
  have q9 : v8.cell? ⟨w.heap.size + 2, 0, none⟩ = some (.slice A4 f1.length c4) := (blk_cell BX_c.out 0).trans rfl
  have q10 : v8.cell? ⟨w.heap.size + 2, 1, none⟩ = some (.slice A5 f2.length c5) := (blk_cell BX_c.out 1).trans rfl
  go_wp2_with fail
  clear q9 q10
  refine (few_r (b := false) (s := f1) (d := f2) G3.out).mono ?_
  rintro e v11 ⟨rfl, hb⟩
  replace BX_a := Aside0.mk (blk_below BX_a.out hb)
  replace BX_b := Aside0.mk (blk_below BX_b.out hb)
  replace BX_c := Aside0.mk (blk_below BX_c.out hb)
  replace RD_a0 := Aside0.mk (RD_a0.out.below hb)
  replace RD_a1 := Aside0.mk (RD_a1.out.below hb)
  replace RD_b0 := Aside0.mk (RD_b0.out.below hb)
  replace RD_b1 := Aside0.mk (RD_b1.out.below hb)
  replace RD_c0 := Aside0.mk (RD_c0.out.below hb)
  replace RD_c1 := Aside0.mk (RD_c1.out.below hb)
  replace BW := Aside0.mk (below_then BW.out BW.out.size hb)
  clear hb
  go_wp2_with fail
  go_ret
  exact ⟨rfl, BW.out⟩
set_option maxRecDepth 100000 in
theorem three_good (A0 : Option Addr) (c0 : Nat) (a1 : List Int) (A1 : Option Addr) (c1 : Nat) (a2 : List Int) (A2 : Option Addr) (c2 : Nat) (b1 : List Int) (A3 : Option Addr) (c3 : Nat) (b2 : List Int) (A4 : Option Addr) (c4 : Nat) (f1 : List Int) (A5 : Option Addr) (c5 : Nat) (f2 : List Int) (w : World)
    (r0 : Rd w (.slice A0 a1.length c0) a1) (r1 : Rd w (.slice A1 a2.length c1) a2) (i1 : allI a2) (r2 : Rd w (.slice A2 b1.length c2) b1) (r3 : Rd w (.slice A3 b2.length c3) b2) (i2 : allI b2) (r4 : Rd w (.slice A4 f1.length c4) f1) (r5 : Rd w (.slice A5 f2.length c5) f2) (i3 : allI f2) (g1 : fewB a1 a2 = true) (g2 : fewB b1 b2 = true) (g3 : fewB f1 f2 = true)
    (sx dx : List Int) (ex : Int) (hx : elemTwo 10 a1 a2 b1 b2 = ((sx, dx), ex)) (sy dy : List Int) (ey : Int) (hy : elemTwo 10 sx dx f1 f2 = ((sy, dy), ey)) (sz dz : List Int) (ez : Int) (hz : elemTwo 10 b1 b2 f1 f2 = ((sz, dz), ez)) (sv dv : List Int) (ev : Int) (hv : elemTwo 10 a1 a2 sz dz = ((sv, dv), ev))
    (ix : allI dx) (iz : allI dz) (e1 : ex = 0 → ey = 0 → ez = 0 → ev = 0 → sameB sy dy sv dv = true ∧ tOk sy dy = true) :
    Calls Try.prog 8 #[.agg #[.slice A0 a1.length c0, .slice A1 a2.length c1], .agg #[.slice A2 b1.length c2, .slice A3 b2.length c3], .agg #[.slice A4 f1.length c4, .slice A5 f2.length c5]] w fun e w' => e = .returned (.bool true) ∧ Below w.heap.size w w' := by
  have G1 := Aside0.mk g1
  have G2 := Aside0.mk g2
  have G3 := Aside0.mk g3
  have Hx := Aside0.mk hx
  have Hy := Aside0.mk hy
  have Hz := Aside0.mk hz
  have Hv := Aside0.mk hv
  have IX := Aside0.mk ix
  have IZ := Aside0.mk iz
  have E1 := Aside0.mk e1
  clear g1 g2 g3 ix iz e1 hx hy hz hv
  have RD_a0 := Aside0.mk r0
  have RD_a1 := Aside0.mk r1
  have RD_b0 := Aside0.mk r2
  have RD_b1 := Aside0.mk r3
  have RD_c0 := Aside0.mk r4
  have RD_c1 := Aside0.mk r5
  have I1 := Aside0.mk i1
  have I2 := Aside0.mk i2
  have I3 := Aside0.mk i3
  clear r0 r1 r2 r3 r4 r5 i1 i2 i3
  have BW : Aside0 (Below w.heap.size w w) := ⟨Below.refl _ _⟩
  go_enter Try.func8, Try.ntmps8
  obtain ⟨u1, hu1⟩ : ∃ u, (((w.alloc (Obj.cells #[.slice A0 a1.length c0, .slice A1 a2.length c1] 24)).alloc (Obj.cells #[.slice A2 b1.length c2, .slice A3 b2.length c3] 24)).alloc (Obj.cells #[.slice A4 f1.length c4, .slice A5 f2.length c5] 24)) = u := ⟨_, rfl⟩
  have hbu1 : Below w.heap.size w u1 := by rw [← hu1]; exact below_fold w [Obj.cells #[.slice A0 a1.length c0, .slice A1 a2.length c1] 24, Obj.cells #[.slice A2 b1.length c2, .slice A3 b2.length c3] 24, Obj.cells #[.slice A4 f1.length c4, .slice A5 f2.length c5] 24]
  have BX_a : Aside0 (u1.heap[w.heap.size]? = some (.cells #[.slice A0 a1.length c0, .slice A1 a2.length c1] 24 (0, 0))) := ⟨by rw [← hu1]; exact blk_fold w [Obj.cells #[.slice A0 a1.length c0, .slice A1 a2.length c1] 24, Obj.cells #[.slice A2 b1.length c2, .slice A3 b2.length c3] 24, Obj.cells #[.slice A4 f1.length c4, .slice A5 f2.length c5] 24] 0 _ rfl⟩
  have BX_b : Aside0 (u1.heap[w.heap.size + 1]? = some (.cells #[.slice A2 b1.length c2, .slice A3 b2.length c3] 24 (0, 0))) := ⟨by rw [← hu1]; exact blk_fold w [Obj.cells #[.slice A0 a1.length c0, .slice A1 a2.length c1] 24, Obj.cells #[.slice A2 b1.length c2, .slice A3 b2.length c3] 24, Obj.cells #[.slice A4 f1.length c4, .slice A5 f2.length c5] 24] 1 _ rfl⟩
  have BX_c : Aside0 (u1.heap[w.heap.size + 2]? = some (.cells #[.slice A4 f1.length c4, .slice A5 f2.length c5] 24 (0, 0))) := ⟨by rw [← hu1]; exact blk_fold w [Obj.cells #[.slice A0 a1.length c0, .slice A1 a2.length c1] 24, Obj.cells #[.slice A2 b1.length c2, .slice A3 b2.length c3] 24, Obj.cells #[.slice A4 f1.length c4, .slice A5 f2.length c5] 24] 2 _ rfl⟩
  have Hu1 := Aside0.mk hu1
  replace RD_a0 := Aside0.mk (RD_a0.out.below hbu1)
  replace RD_a1 := Aside0.mk (RD_a1.out.below hbu1)
  replace RD_b0 := Aside0.mk (RD_b0.out.below hbu1)
  replace RD_b1 := Aside0.mk (RD_b1.out.below hbu1)
  replace RD_c0 := Aside0.mk (RD_c0.out.below hbu1)
  replace RD_c1 := Aside0.mk (RD_c1.out.below hbu1)
  replace BW := Aside0.mk (below_then BW.out BW.out.size hbu1)
  clear hbu1 hu1
  go_wp2_with fail
  rw [Hu1.out]
  clear Hu1
  refine (awake04 _).mono ?_
  rintro e v2 ⟨rfl, hb⟩
  replace BX_a := Aside0.mk (blk_below BX_a.out hb)
  replace BX_b := Aside0.mk (blk_below BX_b.out hb)
  replace BX_c := Aside0.mk (blk_below BX_c.out hb)
  replace RD_a0 := Aside0.mk (RD_a0.out.below hb)
  replace RD_a1 := Aside0.mk (RD_a1.out.below hb)
  replace RD_b0 := Aside0.mk (RD_b0.out.below hb)
  replace RD_b1 := Aside0.mk (RD_b1.out.below hb)
  replace RD_c0 := Aside0.mk (RD_c0.out.below hb)
  replace RD_c1 := Aside0.mk (RD_c1.out.below hb)
  replace BW := Aside0.mk (below_then BW.out BW.out.size hb)
  clear hb
  have q3 : v2.cell? ⟨w.heap.size, 0, none⟩ = some (.slice A0 a1.length c0) := (blk_cell BX_a.out 0).trans rfl
  have q4 : v2.cell? ⟨w.heap.size, 1, none⟩ = some (.slice A1 a2.length c1) := (blk_cell BX_a.out 1).trans rfl
  go_wp2_with fail
  clear q3 q4
  refine (few_r (b := true) (s := a1) (d := a2) G1.out).mono ?_
  rintro e v5 ⟨rfl, hb⟩
  replace BX_a := Aside0.mk (blk_below BX_a.out hb)
  replace BX_b := Aside0.mk (blk_below BX_b.out hb)
  replace BX_c := Aside0.mk (blk_below BX_c.out hb)
  replace RD_a0 := Aside0.mk (RD_a0.out.below hb)
  replace RD_a1 := Aside0.mk (RD_a1.out.below hb)
  replace RD_b0 := Aside0.mk (RD_b0.out.below hb)
  replace RD_b1 := Aside0.mk (RD_b1.out.below hb)
  replace RD_c0 := Aside0.mk (RD_c0.out.below hb)
  replace RD_c1 := Aside0.mk (RD_c1.out.below hb)
  replace BW := Aside0.mk (below_then BW.out BW.out.size hb)
  clear hb
  have q6 : v5.cell? ⟨w.heap.size + 1, 0, none⟩ = some (.slice A2 b1.length c2) := (blk_cell BX_b.out 0).trans rfl
  have q7 : v5.cell? ⟨w.heap.size + 1, 1, none⟩ = some (.slice A3 b2.length c3) := (blk_cell BX_b.out 1).trans rfl
  go_wp2_with fail
  clear q6 q7
  refine (few_r (b := true) (s := b1) (d := b2) G2.out).mono ?_
  rintro e v8 ⟨rfl, hb⟩
  replace BX_a := Aside0.mk (blk_below BX_a.out hb)
  replace BX_b := Aside0.mk (blk_below BX_b.out hb)
  replace BX_c := Aside0.mk (blk_below BX_c.out hb)
  replace RD_a0 := Aside0.mk (RD_a0.out.below hb)
  replace RD_a1 := Aside0.mk (RD_a1.out.below hb)
  replace RD_b0 := Aside0.mk (RD_b0.out.below hb)
  replace RD_b1 := Aside0.mk (RD_b1.out.below hb)
  replace RD_c0 := Aside0.mk (RD_c0.out.below hb)
  replace RD_c1 := Aside0.mk (RD_c1.out.below hb)
  replace BW := Aside0.mk (below_then BW.out BW.out.size hb)
  clear hb
  have q9 : v8.cell? ⟨w.heap.size + 2, 0, none⟩ = some (.slice A4 f1.length c4) := (blk_cell BX_c.out 0).trans rfl
  have q10 : v8.cell? ⟨w.heap.size + 2, 1, none⟩ = some (.slice A5 f2.length c5) := (blk_cell BX_c.out 1).trans rfl
  go_wp2_with fail
  clear q9 q10
  refine (few_r (b := true) (s := f1) (d := f2) G3.out).mono ?_
  rintro e v11 ⟨rfl, hb⟩
  replace BX_a := Aside0.mk (blk_below BX_a.out hb)
  replace BX_b := Aside0.mk (blk_below BX_b.out hb)
  replace BX_c := Aside0.mk (blk_below BX_c.out hb)
  replace RD_a0 := Aside0.mk (RD_a0.out.below hb)
  replace RD_a1 := Aside0.mk (RD_a1.out.below hb)
  replace RD_b0 := Aside0.mk (RD_b0.out.below hb)
  replace RD_b1 := Aside0.mk (RD_b1.out.below hb)
  replace RD_c0 := Aside0.mk (RD_c0.out.below hb)
  replace RD_c1 := Aside0.mk (RD_c1.out.below hb)
  replace BW := Aside0.mk (below_then BW.out BW.out.size hb)
  clear hb
  have q12 : v11.cell? ⟨w.heap.size, 0, none⟩ = some (.slice A0 a1.length c0) := (blk_cell BX_a.out 0).trans rfl
  have q13 : v11.cell? ⟨w.heap.size, 1, none⟩ = some (.slice A1 a2.length c1) := (blk_cell BX_a.out 1).trans rfl
  have q14 : v11.cell? ⟨w.heap.size + 1, 0, none⟩ = some (.slice A2 b1.length c2) := (blk_cell BX_b.out 0).trans rfl
  have q15 : v11.cell? ⟨w.heap.size + 1, 1, none⟩ = some (.slice A3 b2.length c3) := (blk_cell BX_b.out 1).trans rfl
  go_wp2_with fail
  clear q12 q13 q14 q15
  refine (two_r 10 Hx.out RD_a0.out RD_a1.out RD_b0.out RD_b1.out I1.out I2.out).mono ?_
  rintro e v16 ⟨Ax, kx, A'x, k'x, rfl, r0, r1, hb⟩
  have RD_x0 := Aside0.mk r0
  have RD_x1 := Aside0.mk r1
  replace BX_a := Aside0.mk (blk_below BX_a.out hb)
  replace BX_b := Aside0.mk (blk_below BX_b.out hb)
  replace BX_c := Aside0.mk (blk_below BX_c.out hb)
  replace RD_a0 := Aside0.mk (RD_a0.out.below hb)
  replace RD_a1 := Aside0.mk (RD_a1.out.below hb)
  replace RD_b0 := Aside0.mk (RD_b0.out.below hb)
  replace RD_b1 := Aside0.mk (RD_b1.out.below hb)
  replace RD_c0 := Aside0.mk (RD_c0.out.below hb)
  replace RD_c1 := Aside0.mk (RD_c1.out.below hb)
  replace BW := Aside0.mk (below_then BW.out BW.out.size hb)
  clear hb r0 r1
  have q17 : (v16.alloc (Obj.cells #[.slice Ax sx.length kx, .slice A'x dx.length k'x] 24)).cell? ⟨v16.heap.size, 0, none⟩ = some (.slice Ax sx.length kx) := (blk_cell (blk_fold v16 [Obj.cells #[.slice Ax sx.length kx, .slice A'x dx.length k'x] 24] 0 _ rfl) 0).trans rfl
  have q18 : (v16.alloc (Obj.cells #[.slice Ax sx.length kx, .slice A'x dx.length k'x] 24)).cell? ⟨v16.heap.size, 1, none⟩ = some (.slice A'x dx.length k'x) := (blk_cell (blk_fold v16 [Obj.cells #[.slice Ax sx.length kx, .slice A'x dx.length k'x] 24] 0 _ rfl) 1).trans rfl
  have q19 : (v16.alloc (Obj.cells #[.slice Ax sx.length kx, .slice A'x dx.length k'x] 24)).cell? ⟨w.heap.size + 2, 0, none⟩ = some (.slice A4 f1.length c4) := (blk_cell (blk_below BX_c.out (below_fold v16 [Obj.cells #[.slice Ax sx.length kx, .slice A'x dx.length k'x] 24])) 0).trans rfl
  have q20 : (v16.alloc (Obj.cells #[.slice Ax sx.length kx, .slice A'x dx.length k'x] 24)).cell? ⟨w.heap.size + 2, 1, none⟩ = some (.slice A5 f2.length c5) := (blk_cell (blk_below BX_c.out (below_fold v16 [Obj.cells #[.slice Ax sx.length kx, .slice A'x dx.length k'x] 24])) 1).trans rfl
  obtain ⟨u21, hu21⟩ : ∃ u, (v16.alloc (Obj.cells #[.slice Ax sx.length kx, .slice A'x dx.length k'x] 24)) = u := ⟨_, rfl⟩
  have hbu21 : Below v16.heap.size v16 u21 := by rw [← hu21]; exact below_fold v16 [Obj.cells #[.slice Ax sx.length kx, .slice A'x dx.length k'x] 24]
  have BX_x : Aside0 (u21.heap[v16.heap.size]? = some (.cells #[.slice Ax sx.length kx, .slice A'x dx.length k'x] 24 (0, 0))) := ⟨by rw [← hu21]; exact blk_fold v16 [Obj.cells #[.slice Ax sx.length kx, .slice A'x dx.length k'x] 24] 0 _ rfl⟩
  have Hu21 := Aside0.mk hu21
  replace BX_a := Aside0.mk (blk_below BX_a.out hbu21)
  replace BX_b := Aside0.mk (blk_below BX_b.out hbu21)
  replace BX_c := Aside0.mk (blk_below BX_c.out hbu21)
  replace RD_a0 := Aside0.mk (RD_a0.out.below hbu21)
  replace RD_a1 := Aside0.mk (RD_a1.out.below hbu21)
  replace RD_b0 := Aside0.mk (RD_b0.out.below hbu21)
  replace RD_b1 := Aside0.mk (RD_b1.out.below hbu21)
  replace RD_c0 := Aside0.mk (RD_c0.out.below hbu21)
  replace RD_c1 := Aside0.mk (RD_c1.out.below hbu21)
  replace RD_x0 := Aside0.mk (RD_x0.out.below hbu21)
  replace RD_x1 := Aside0.mk (RD_x1.out.below hbu21)
  replace BW := Aside0.mk (below_then BW.out BW.out.size hbu21)
  clear hbu21 hu21
  go_wp2_with fail
  rw [Hu21.out]
  clear q17 q18 q19 q20
  clear Hu21
  refine (two_r 10 Hy.out RD_x0.out RD_x1.out RD_c0.out RD_c1.out IX.out I3.out).mono ?_
  rintro e v22 ⟨Ay, ky, A'y, k'y, rfl, r0, r1, hb⟩
  have RD_y0 := Aside0.mk r0
  have RD_y1 := Aside0.mk r1
  replace BX_a := Aside0.mk (blk_below BX_a.out hb)
  replace BX_b := Aside0.mk (blk_below BX_b.out hb)
  replace BX_c := Aside0.mk (blk_below BX_c.out hb)
  replace BX_x := Aside0.mk (blk_below BX_x.out hb)
  replace RD_a0 := Aside0.mk (RD_a0.out.below hb)
  replace RD_a1 := Aside0.mk (RD_a1.out.below hb)
  replace RD_b0 := Aside0.mk (RD_b0.out.below hb)
  replace RD_b1 := Aside0.mk (RD_b1.out.below hb)
  replace RD_c0 := Aside0.mk (RD_c0.out.below hb)
  replace RD_c1 := Aside0.mk (RD_c1.out.below hb)
  replace RD_x0 := Aside0.mk (RD_x0.out.below hb)
  replace RD_x1 := Aside0.mk (RD_x1.out.below hb)
  replace BW := Aside0.mk (below_then BW.out BW.out.size hb)
  clear hb r0 r1
  have q23 : (v22.alloc (Obj.cells #[.slice Ay sy.length ky, .slice A'y dy.length k'y] 24)).cell? ⟨w.heap.size + 1, 0, none⟩ = some (.slice A2 b1.length c2) := (blk_cell (blk_below BX_b.out (below_fold v22 [Obj.cells #[.slice Ay sy.length ky, .slice A'y dy.length k'y] 24])) 0).trans rfl
  have q24 : (v22.alloc (Obj.cells #[.slice Ay sy.length ky, .slice A'y dy.length k'y] 24)).cell? ⟨w.heap.size + 1, 1, none⟩ = some (.slice A3 b2.length c3) := (blk_cell (blk_below BX_b.out (below_fold v22 [Obj.cells #[.slice Ay sy.length ky, .slice A'y dy.length k'y] 24])) 1).trans rfl
  have q25 : (v22.alloc (Obj.cells #[.slice Ay sy.length ky, .slice A'y dy.length k'y] 24)).cell? ⟨w.heap.size + 2, 0, none⟩ = some (.slice A4 f1.length c4) := (blk_cell (blk_below BX_c.out (below_fold v22 [Obj.cells #[.slice Ay sy.length ky, .slice A'y dy.length k'y] 24])) 0).trans rfl
  have q26 : (v22.alloc (Obj.cells #[.slice Ay sy.length ky, .slice A'y dy.length k'y] 24)).cell? ⟨w.heap.size + 2, 1, none⟩ = some (.slice A5 f2.length c5) := (blk_cell (blk_below BX_c.out (below_fold v22 [Obj.cells #[.slice Ay sy.length ky, .slice A'y dy.length k'y] 24])) 1).trans rfl
  obtain ⟨u27, hu27⟩ : ∃ u, (v22.alloc (Obj.cells #[.slice Ay sy.length ky, .slice A'y dy.length k'y] 24)) = u := ⟨_, rfl⟩
  have hbu27 : Below v22.heap.size v22 u27 := by rw [← hu27]; exact below_fold v22 [Obj.cells #[.slice Ay sy.length ky, .slice A'y dy.length k'y] 24]
  have BX_y : Aside0 (u27.heap[v22.heap.size]? = some (.cells #[.slice Ay sy.length ky, .slice A'y dy.length k'y] 24 (0, 0))) := ⟨by rw [← hu27]; exact blk_fold v22 [Obj.cells #[.slice Ay sy.length ky, .slice A'y dy.length k'y] 24] 0 _ rfl⟩
  have Hu27 := Aside0.mk hu27
  replace BX_a := Aside0.mk (blk_below BX_a.out hbu27)
  replace BX_b := Aside0.mk (blk_below BX_b.out hbu27)
  replace BX_c := Aside0.mk (blk_below BX_c.out hbu27)
  replace BX_x := Aside0.mk (blk_below BX_x.out hbu27)
  replace RD_a0 := Aside0.mk (RD_a0.out.below hbu27)
  replace RD_a1 := Aside0.mk (RD_a1.out.below hbu27)
  replace RD_b0 := Aside0.mk (RD_b0.out.below hbu27)
  replace RD_b1 := Aside0.mk (RD_b1.out.below hbu27)
  replace RD_c0 := Aside0.mk (RD_c0.out.below hbu27)
  replace RD_c1 := Aside0.mk (RD_c1.out.below hbu27)
  replace RD_x0 := Aside0.mk (RD_x0.out.below hbu27)
  replace RD_x1 := Aside0.mk (RD_x1.out.below hbu27)
  replace RD_y0 := Aside0.mk (RD_y0.out.below hbu27)
  replace RD_y1 := Aside0.mk (RD_y1.out.below hbu27)
  replace BW := Aside0.mk (below_then BW.out BW.out.size hbu27)
  clear hbu27 hu27
  go_wp2_with fail
  rw [Hu27.out]
  clear q23 q24 q25 q26
  clear Hu27
  refine (two_r 10 Hz.out RD_b0.out RD_b1.out RD_c0.out RD_c1.out I2.out I3.out).mono ?_
  rintro e v28 ⟨Az, kz, A'z, k'z, rfl, r0, r1, hb⟩
  have RD_z0 := Aside0.mk r0
  have RD_z1 := Aside0.mk r1
  replace BX_a := Aside0.mk (blk_below BX_a.out hb)
  replace BX_b := Aside0.mk (blk_below BX_b.out hb)
  replace BX_c := Aside0.mk (blk_below BX_c.out hb)
  replace BX_x := Aside0.mk (blk_below BX_x.out hb)
  replace BX_y := Aside0.mk (blk_below BX_y.out hb)
  replace RD_a0 := Aside0.mk (RD_a0.out.below hb)
  replace RD_a1 := Aside0.mk (RD_a1.out.below hb)
  replace RD_b0 := Aside0.mk (RD_b0.out.below hb)
  replace RD_b1 := Aside0.mk (RD_b1.out.below hb)
  replace RD_c0 := Aside0.mk (RD_c0.out.below hb)
  replace RD_c1 := Aside0.mk (RD_c1.out.below hb)
  replace RD_x0 := Aside0.mk (RD_x0.out.below hb)
  replace RD_x1 := Aside0.mk (RD_x1.out.below hb)
  replace RD_y0 := Aside0.mk (RD_y0.out.below hb)
  replace RD_y1 := Aside0.mk (RD_y1.out.below hb)
  replace BW := Aside0.mk (below_then BW.out BW.out.size hb)
  clear hb r0 r1
  have q29 : (v28.alloc (Obj.cells #[.slice Az sz.length kz, .slice A'z dz.length k'z] 24)).cell? ⟨w.heap.size, 0, none⟩ = some (.slice A0 a1.length c0) := (blk_cell (blk_below BX_a.out (below_fold v28 [Obj.cells #[.slice Az sz.length kz, .slice A'z dz.length k'z] 24])) 0).trans rfl
  have q30 : (v28.alloc (Obj.cells #[.slice Az sz.length kz, .slice A'z dz.length k'z] 24)).cell? ⟨w.heap.size, 1, none⟩ = some (.slice A1 a2.length c1) := (blk_cell (blk_below BX_a.out (below_fold v28 [Obj.cells #[.slice Az sz.length kz, .slice A'z dz.length k'z] 24])) 1).trans rfl
  have q31 : (v28.alloc (Obj.cells #[.slice Az sz.length kz, .slice A'z dz.length k'z] 24)).cell? ⟨v28.heap.size, 0, none⟩ = some (.slice Az sz.length kz) := (blk_cell (blk_fold v28 [Obj.cells #[.slice Az sz.length kz, .slice A'z dz.length k'z] 24] 0 _ rfl) 0).trans rfl
  have q32 : (v28.alloc (Obj.cells #[.slice Az sz.length kz, .slice A'z dz.length k'z] 24)).cell? ⟨v28.heap.size, 1, none⟩ = some (.slice A'z dz.length k'z) := (blk_cell (blk_fold v28 [Obj.cells #[.slice Az sz.length kz, .slice A'z dz.length k'z] 24] 0 _ rfl) 1).trans rfl
  obtain ⟨u33, hu33⟩ : ∃ u, (v28.alloc (Obj.cells #[.slice Az sz.length kz, .slice A'z dz.length k'z] 24)) = u := ⟨_, rfl⟩
  have hbu33 : Below v28.heap.size v28 u33 := by rw [← hu33]; exact below_fold v28 [Obj.cells #[.slice Az sz.length kz, .slice A'z dz.length k'z] 24]
  have BX_z : Aside0 (u33.heap[v28.heap.size]? = some (.cells #[.slice Az sz.length kz, .slice A'z dz.length k'z] 24 (0, 0))) := ⟨by rw [← hu33]; exact blk_fold v28 [Obj.cells #[.slice Az sz.length kz, .slice A'z dz.length k'z] 24] 0 _ rfl⟩
  have Hu33 := Aside0.mk hu33
  replace BX_a := Aside0.mk (blk_below BX_a.out hbu33)
  replace BX_b := Aside0.mk (blk_below BX_b.out hbu33)
  replace BX_c := Aside0.mk (blk_below BX_c.out hbu33)
  replace BX_x := Aside0.mk (blk_below BX_x.out hbu33)
  replace BX_y := Aside0.mk (blk_below BX_y.out hbu33)
  replace RD_a0 := Aside0.mk (RD_a0.out.below hbu33)
  replace RD_a1 := Aside0.mk (RD_a1.out.below hbu33)
  replace RD_b0 := Aside0.mk (RD_b0.out.below hbu33)
  replace RD_b1 := Aside0.mk (RD_b1.out.below hbu33)
  replace RD_c0 := Aside0.mk (RD_c0.out.below hbu33)
  replace RD_c1 := Aside0.mk (RD_c1.out.below hbu33)
  replace RD_x0 := Aside0.mk (RD_x0.out.below hbu33)
  replace RD_x1 := Aside0.mk (RD_x1.out.below hbu33)
  replace RD_y0 := Aside0.mk (RD_y0.out.below hbu33)
  replace RD_y1 := Aside0.mk (RD_y1.out.below hbu33)
  replace RD_z0 := Aside0.mk (RD_z0.out.below hbu33)
  replace RD_z1 := Aside0.mk (RD_z1.out.below hbu33)
  replace BW := Aside0.mk (below_then BW.out BW.out.size hbu33)
  clear hbu33 hu33
  go_wp2_with fail
  rw [Hu33.out]
  clear q29 q30 q31 q32
  clear Hu33
  refine (two_r 10 Hv.out RD_a0.out RD_a1.out RD_z0.out RD_z1.out I1.out IZ.out).mono ?_
  rintro e v34 ⟨Av, kv, A'v, k'v, rfl, r0, r1, hb⟩
  have RD_v0 := Aside0.mk r0
  have RD_v1 := Aside0.mk r1
  replace BX_a := Aside0.mk (blk_below BX_a.out hb)
  replace BX_b := Aside0.mk (blk_below BX_b.out hb)
  replace BX_c := Aside0.mk (blk_below BX_c.out hb)
  replace BX_x := Aside0.mk (blk_below BX_x.out hb)
  replace BX_y := Aside0.mk (blk_below BX_y.out hb)
  replace BX_z := Aside0.mk (blk_below BX_z.out hb)
  replace RD_a0 := Aside0.mk (RD_a0.out.below hb)
  replace RD_a1 := Aside0.mk (RD_a1.out.below hb)
  replace RD_b0 := Aside0.mk (RD_b0.out.below hb)
  replace RD_b1 := Aside0.mk (RD_b1.out.below hb)
  replace RD_c0 := Aside0.mk (RD_c0.out.below hb)
  replace RD_c1 := Aside0.mk (RD_c1.out.below hb)
  replace RD_x0 := Aside0.mk (RD_x0.out.below hb)
  replace RD_x1 := Aside0.mk (RD_x1.out.below hb)
  replace RD_y0 := Aside0.mk (RD_y0.out.below hb)
  replace RD_y1 := Aside0.mk (RD_y1.out.below hb)
  replace RD_z0 := Aside0.mk (RD_z0.out.below hb)
  replace RD_z1 := Aside0.mk (RD_z1.out.below hb)
  replace BW := Aside0.mk (below_then BW.out BW.out.size hb)
  clear hb r0 r1
  by_cases hx : ex = 0
  case neg =>
    have zx : (ex != 0) = true := by simpa using hx
    clear hx
    have BWN : Aside0 (Below w.heap.size w (v34.alloc (Obj.cells #[.slice Av sv.length kv, .slice A'v dv.length k'v] 24))) := ⟨below_then BW.out BW.out.size (below_alloc (Below.refl _ _) _)⟩
    go_wp2_with fail
    go_ret
    exact ⟨rfl, BWN.out⟩
  by_cases hy : ey = 0
  case neg =>
    have zx : (ex != 0) = false := by simpa using hx
    have zy : (ey != 0) = true := by simpa using hy
    clear hy hx
    have BWN : Aside0 (Below w.heap.size w (v34.alloc (Obj.cells #[.slice Av sv.length kv, .slice A'v dv.length k'v] 24))) := ⟨below_then BW.out BW.out.size (below_alloc (Below.refl _ _) _)⟩
    go_wp2_with fail
    go_ret
    exact ⟨rfl, BWN.out⟩
  by_cases hz : ez = 0
  case neg =>
    have zx : (ex != 0) = false := by simpa using hx
    have zy : (ey != 0) = false := by simpa using hy
    have zz : (ez != 0) = true := by simpa using hz
    clear hz hx hy
    have BWN : Aside0 (Below w.heap.size w (v34.alloc (Obj.cells #[.slice Av sv.length kv, .slice A'v dv.length k'v] 24))) := ⟨below_then BW.out BW.out.size (below_alloc (Below.refl _ _) _)⟩
    go_wp2_with fail
    go_ret
    exact ⟨rfl, BWN.out⟩
  by_cases hv : ev = 0
  case neg =>
    have zx : (ex != 0) = false := by simpa using hx
    have zy : (ey != 0) = false := by simpa using hy
    have zz : (ez != 0) = false := by simpa using hz
    have zv : (ev != 0) = true := by simpa using hv
    clear hv hx hy hz
    have BWN : Aside0 (Below w.heap.size w (v34.alloc (Obj.cells #[.slice Av sv.length kv, .slice A'v dv.length k'v] 24))) := ⟨below_then BW.out BW.out.size (below_alloc (Below.refl _ _) _)⟩
    go_wp2_with fail
    go_ret
    exact ⟨rfl, BWN.out⟩
  have zx : (ex != 0) = false := by simpa using hx
  have zy : (ey != 0) = false := by simpa using hy
  have zz : (ez != 0) = false := by simpa using hz
  have zv : (ev != 0) = false := by simpa using hv
  have E2 := Aside0.mk (E1.out hx hy hz hv)
  clear hx hy hz hv
  have q35 : (v34.alloc (Obj.cells #[.slice Av sv.length kv, .slice A'v dv.length k'v] 24)).cell? ⟨v22.heap.size, 0, none⟩ = some (.slice Ay sy.length ky) := (blk_cell (blk_below BX_y.out (below_fold v34 [Obj.cells #[.slice Av sv.length kv, .slice A'v dv.length k'v] 24])) 0).trans rfl
  have q36 : (v34.alloc (Obj.cells #[.slice Av sv.length kv, .slice A'v dv.length k'v] 24)).cell? ⟨v22.heap.size, 1, none⟩ = some (.slice A'y dy.length k'y) := (blk_cell (blk_below BX_y.out (below_fold v34 [Obj.cells #[.slice Av sv.length kv, .slice A'v dv.length k'v] 24])) 1).trans rfl
  have q37 : (v34.alloc (Obj.cells #[.slice Av sv.length kv, .slice A'v dv.length k'v] 24)).cell? ⟨v34.heap.size, 0, none⟩ = some (.slice Av sv.length kv) := (blk_cell (blk_fold v34 [Obj.cells #[.slice Av sv.length kv, .slice A'v dv.length k'v] 24] 0 _ rfl) 0).trans rfl
  have q38 : (v34.alloc (Obj.cells #[.slice Av sv.length kv, .slice A'v dv.length k'v] 24)).cell? ⟨v34.heap.size, 1, none⟩ = some (.slice A'v dv.length k'v) := (blk_cell (blk_fold v34 [Obj.cells #[.slice Av sv.length kv, .slice A'v dv.length k'v] 24] 0 _ rfl) 1).trans rfl
  obtain ⟨u39, hu39⟩ : ∃ u, (v34.alloc (Obj.cells #[.slice Av sv.length kv, .slice A'v dv.length k'v] 24)) = u := ⟨_, rfl⟩
  have hbu39 : Below v34.heap.size v34 u39 := by rw [← hu39]; exact below_fold v34 [Obj.cells #[.slice Av sv.length kv, .slice A'v dv.length k'v] 24]
  have BX_v : Aside0 (u39.heap[v34.heap.size]? = some (.cells #[.slice Av sv.length kv, .slice A'v dv.length k'v] 24 (0, 0))) := ⟨by rw [← hu39]; exact blk_fold v34 [Obj.cells #[.slice Av sv.length kv, .slice A'v dv.length k'v] 24] 0 _ rfl⟩
  have Hu39 := Aside0.mk hu39
  replace BX_a := Aside0.mk (blk_below BX_a.out hbu39)
  replace BX_b := Aside0.mk (blk_below BX_b.out hbu39)
  replace BX_c := Aside0.mk (blk_below BX_c.out hbu39)
  replace BX_x := Aside0.mk (blk_below BX_x.out hbu39)
  replace BX_y := Aside0.mk (blk_below BX_y.out hbu39)
  replace BX_z := Aside0.mk (blk_below BX_z.out hbu39)
  replace RD_a0 := Aside0.mk (RD_a0.out.below hbu39)
  replace RD_a1 := Aside0.mk (RD_a1.out.below hbu39)
  replace RD_b0 := Aside0.mk (RD_b0.out.below hbu39)
  replace RD_b1 := Aside0.mk (RD_b1.out.below hbu39)
  replace RD_c0 := Aside0.mk (RD_c0.out.below hbu39)
  replace RD_c1 := Aside0.mk (RD_c1.out.below hbu39)
  replace RD_x0 := Aside0.mk (RD_x0.out.below hbu39)
  replace RD_x1 := Aside0.mk (RD_x1.out.below hbu39)
  replace RD_y0 := Aside0.mk (RD_y0.out.below hbu39)
  replace RD_y1 := Aside0.mk (RD_y1.out.below hbu39)
  replace RD_z0 := Aside0.mk (RD_z0.out.below hbu39)
  replace RD_z1 := Aside0.mk (RD_z1.out.below hbu39)
  replace RD_v0 := Aside0.mk (RD_v0.out.below hbu39)
  replace RD_v1 := Aside0.mk (RD_v1.out.below hbu39)
  replace BW := Aside0.mk (below_then BW.out BW.out.size hbu39)
  clear hbu39 hu39
  go_wp2_with fail
  rw [Hu39.out]
  clear q35 q36 q37 q38
  clear Hu39
  refine (same_r (b := true) E2.out.1 RD_y0.out RD_y1.out RD_v0.out RD_v1.out).mono ?_
  rintro e v40 ⟨rfl, hb⟩
  replace BX_a := Aside0.mk (blk_below BX_a.out hb)
  replace BX_b := Aside0.mk (blk_below BX_b.out hb)
  replace BX_c := Aside0.mk (blk_below BX_c.out hb)
  replace BX_x := Aside0.mk (blk_below BX_x.out hb)
  replace BX_y := Aside0.mk (blk_below BX_y.out hb)
  replace BX_z := Aside0.mk (blk_below BX_z.out hb)
  replace BX_v := Aside0.mk (blk_below BX_v.out hb)
  replace RD_a0 := Aside0.mk (RD_a0.out.below hb)
  replace RD_a1 := Aside0.mk (RD_a1.out.below hb)
  replace RD_b0 := Aside0.mk (RD_b0.out.below hb)
  replace RD_b1 := Aside0.mk (RD_b1.out.below hb)
  replace RD_c0 := Aside0.mk (RD_c0.out.below hb)
  replace RD_c1 := Aside0.mk (RD_c1.out.below hb)
  replace RD_x0 := Aside0.mk (RD_x0.out.below hb)
  replace RD_x1 := Aside0.mk (RD_x1.out.below hb)
  replace RD_y0 := Aside0.mk (RD_y0.out.below hb)
  replace RD_y1 := Aside0.mk (RD_y1.out.below hb)
  replace RD_z0 := Aside0.mk (RD_z0.out.below hb)
  replace RD_z1 := Aside0.mk (RD_z1.out.below hb)
  replace RD_v0 := Aside0.mk (RD_v0.out.below hb)
  replace RD_v1 := Aside0.mk (RD_v1.out.below hb)
  replace BW := Aside0.mk (below_then BW.out BW.out.size hb)
  clear hb
  have q41 : v40.cell? ⟨v22.heap.size, 0, none⟩ = some (.slice Ay sy.length ky) := (blk_cell BX_y.out 0).trans rfl
  have q42 : v40.cell? ⟨v22.heap.size, 1, none⟩ = some (.slice A'y dy.length k'y) := (blk_cell BX_y.out 1).trans rfl
  go_wp2_with fail
  clear q41 q42
  refine (tcheck_r (b := true) E2.out.2 RD_y0.out).mono ?_
  rintro e v43 ⟨rfl, hb⟩
  replace BX_a := Aside0.mk (blk_below BX_a.out hb)
  replace BX_b := Aside0.mk (blk_below BX_b.out hb)
  replace BX_c := Aside0.mk (blk_below BX_c.out hb)
  replace BX_x := Aside0.mk (blk_below BX_x.out hb)
  replace BX_y := Aside0.mk (blk_below BX_y.out hb)
  replace BX_z := Aside0.mk (blk_below BX_z.out hb)
  replace BX_v := Aside0.mk (blk_below BX_v.out hb)
  replace RD_a0 := Aside0.mk (RD_a0.out.below hb)
  replace RD_a1 := Aside0.mk (RD_a1.out.below hb)
  replace RD_b0 := Aside0.mk (RD_b0.out.below hb)
  replace RD_b1 := Aside0.mk (RD_b1.out.below hb)
  replace RD_c0 := Aside0.mk (RD_c0.out.below hb)
  replace RD_c1 := Aside0.mk (RD_c1.out.below hb)
  replace RD_x0 := Aside0.mk (RD_x0.out.below hb)
  replace RD_x1 := Aside0.mk (RD_x1.out.below hb)
  replace RD_y0 := Aside0.mk (RD_y0.out.below hb)
  replace RD_y1 := Aside0.mk (RD_y1.out.below hb)
  replace RD_z0 := Aside0.mk (RD_z0.out.below hb)
  replace RD_z1 := Aside0.mk (RD_z1.out.below hb)
  replace RD_v0 := Aside0.mk (RD_v0.out.below hb)
  replace RD_v1 := Aside0.mk (RD_v1.out.below hb)
  replace BW := Aside0.mk (below_then BW.out BW.out.size hb)
  clear hb
  go_wp2_with fail
  go_ret
  exact ⟨rfl, BW.out⟩
end Go.Proofs.Ytpnigmcpifilmaa.P
