/- The walk of ElemDoubles. -/
import Derived.Deep.QuietTactic
import Derived.BigQuiet
import Derived.Test.YtpnigmcpifilmaaA19
namespace Go.Proofs.Ytpnigmcpifilmaa.P
open Go.RowKit Go.Shelf Go.Proofs.YtpnigmcpifilmaaW.PrintWords Go.Proofs.YtpnigmcpifilmaaW.PrintLast Go.Proofs.YtpnigmcpifilmaaW.PrintMore
set_option linter.unusedVariables false
set_option linter.unusedSimpArgs false
set_option maxHeartbeats 4000000
set_option maxRecDepth 100000 in
theorem doubles_bad1 (A0 : Option Addr) (c0 : Nat) (a1 : List Int) (A1 : Option Addr) (c1 : Nat) (a2 : List Int) (A2 : Option Addr) (c2 : Nat) (b1 : List Int) (A3 : Option Addr) (c3 : Nat) (b2 : List Int) (w : World)
    (r0 : Rd w (.slice A0 a1.length c0) a1) (r1 : Rd w (.slice A1 a2.length c1) a2) (i1 : allI a2) (r2 : Rd w (.slice A2 b1.length c2) b1) (r3 : Rd w (.slice A3 b2.length c3) b2) (i2 : allI b2) (g : fewB a1 a2 = false) :
    Calls Try.prog 6 #[.agg #[.slice A0 a1.length c0, .slice A1 a2.length c1], .agg #[.slice A2 b1.length c2, .slice A3 b2.length c3]] w fun e w' => e = .returned (.bool true) ∧ Below w.heap.size w w' := by
  have G1 := Aside0.mk g
  clear g 
  have RD_a0 := Aside0.mk r0
  have RD_a1 := Aside0.mk r1
  have RD_b0 := Aside0.mk r2
  have RD_b1 := Aside0.mk r3
  have I1 := Aside0.mk i1
  have I2 := Aside0.mk i2
  clear r0 r1 r2 r3 i1 i2
  have BW : Aside0 (Below w.heap.size w w) := ⟨Below.refl _ _⟩
  go_enter Try.func6, Try.ntmps6
  obtain ⟨u1, hu1⟩ : ∃ u, ((w.alloc (Obj.cells #[.slice A0 a1.length c0, .slice A1 a2.length c1] 24)).alloc (Obj.cells #[.slice A2 b1.length c2, .slice A3 b2.length c3] 24)) = u := ⟨_, rfl⟩
  have hbu1 : Below w.heap.size w u1 := by rw [← hu1]; exact below_fold w [Obj.cells #[.slice A0 a1.length c0, .slice A1 a2.length c1] 24, Obj.cells #[.slice A2 b1.length c2, .slice A3 b2.length c3] 24]
  have BX_a : Aside0 (u1.heap[w.heap.size]? = some (.cells #[.slice A0 a1.length c0, .slice A1 a2.length c1] 24 (0, 0))) := ⟨by rw [← hu1]; exact blk_fold w [Obj.cells #[.slice A0 a1.length c0, .slice A1 a2.length c1] 24, Obj.cells #[.slice A2 b1.length c2, .slice A3 b2.length c3] 24] 0 _ rfl⟩
  have BX_b : Aside0 (u1.heap[w.heap.size + 1]? = some (.cells #[.slice A2 b1.length c2, .slice A3 b2.length c3] 24 (0, 0))) := ⟨by rw [← hu1]; exact blk_fold w [Obj.cells #[.slice A0 a1.length c0, .slice A1 a2.length c1] 24, Obj.cells #[.slice A2 b1.length c2, .slice A3 b2.length c3] 24] 1 _ rfl⟩
  have Hu1 := Aside0.mk hu1
  replace RD_a0 := Aside0.mk (RD_a0.out.below hbu1)
  replace RD_a1 := Aside0.mk (RD_a1.out.below hbu1)
  replace RD_b0 := Aside0.mk (RD_b0.out.below hbu1)
  replace RD_b1 := Aside0.mk (RD_b1.out.below hbu1)
  replace BW := Aside0.mk (below_then BW.out BW.out.size hbu1)
  clear hbu1 hu1
  go_wp2_with fail
  rw [Hu1.out]
  clear Hu1
  refine (awake04 _).mono ?_
  rintro e v2 ⟨rfl, hb⟩
  replace BX_a := Aside0.mk (blk_below BX_a.out hb)
  replace BX_b := Aside0.mk (blk_below BX_b.out hb)
  replace RD_a0 := Aside0.mk (RD_a0.out.below hb)
  replace RD_a1 := Aside0.mk (RD_a1.out.below hb)
  replace RD_b0 := Aside0.mk (RD_b0.out.below hb)
  replace RD_b1 := Aside0.mk (RD_b1.out.below hb)
  replace BW := Aside0.mk (below_then BW.out BW.out.size hb)
  clear hb
  have q3 : v2.cell? ⟨w.heap.size, 0, none⟩ = some (.slice A0 a1.length c0) := (blk_cell BX_a.out 0).trans rfl
  have q4 : v2.cell? ⟨w.heap.size, 1, none⟩ = some (.slice A1 a2.length c1) := (blk_cell BX_a.out 1).trans rfl
  go_wp2_with fail
  clear q3 q4
  refine (few_r (b := false) (s := a1) (d := a2) G1.out).mono ?_
  rintro e v5 ⟨rfl, hb⟩
  replace BX_a := Aside0.mk (blk_below BX_a.out hb)
  replace BX_b := Aside0.mk (blk_below BX_b.out hb)
  replace RD_a0 := Aside0.mk (RD_a0.out.below hb)
  replace RD_a1 := Aside0.mk (RD_a1.out.below hb)
  replace RD_b0 := Aside0.mk (RD_b0.out.below hb)
  replace RD_b1 := Aside0.mk (RD_b1.out.below hb)
  replace BW := Aside0.mk (below_then BW.out BW.out.size hb)
  clear hb
  go_wp2_with fail
  go_ret
  exact ⟨rfl, BW.out⟩
set_option maxRecDepth 100000 in
theorem doubles_bad2 (A0 : Option Addr) (c0 : Nat) (a1 : List Int) (A1 : Option Addr) (c1 : Nat) (a2 : List Int) (A2 : Option Addr) (c2 : Nat) (b1 : List Int) (A3 : Option Addr) (c3 : Nat) (b2 : List Int) (w : World)
    (r0 : Rd w (.slice A0 a1.length c0) a1) (r1 : Rd w (.slice A1 a2.length c1) a2) (i1 : allI a2) (r2 : Rd w (.slice A2 b1.length c2) b1) (r3 : Rd w (.slice A3 b2.length c3) b2) (i2 : allI b2) (g1 : fewB a1 a2 = true) (g : fewB b1 b2 = false) :
    Calls Try.prog 6 #[.agg #[.slice A0 a1.length c0, .slice A1 a2.length c1], .agg #[.slice A2 b1.length c2, .slice A3 b2.length c3]] w fun e w' => e = .returned (.bool true) ∧ Below w.heap.size w w' := by
  have G1 := Aside0.mk g1
  have G2 := Aside0.mk g
  clear g g1
  have RD_a0 := Aside0.mk r0
  have RD_a1 := Aside0.mk r1
  have RD_b0 := Aside0.mk r2
  have RD_b1 := Aside0.mk r3
  have I1 := Aside0.mk i1
  have I2 := Aside0.mk i2
  clear r0 r1 r2 r3 i1 i2
  have BW : Aside0 (Below w.heap.size w w) := ⟨Below.refl _ _⟩
  go_enter Try.func6, Try.ntmps6
  obtain ⟨u1, hu1⟩ : ∃ u, ((w.alloc (Obj.cells #[.slice A0 a1.length c0, .slice A1 a2.length c1] 24)).alloc (Obj.cells #[.slice A2 b1.length c2, .slice A3 b2.length c3] 24)) = u := ⟨_, rfl⟩
  have hbu1 : Below w.heap.size w u1 := by rw [← hu1]; exact below_fold w [Obj.cells #[.slice A0 a1.length c0, .slice A1 a2.length c1] 24, Obj.cells #[.slice A2 b1.length c2, .slice A3 b2.length c3] 24]
  have BX_a : Aside0 (u1.heap[w.heap.size]? = some (.cells #[.slice A0 a1.length c0, .slice A1 a2.length c1] 24 (0, 0))) := ⟨by rw [← hu1]; exact blk_fold w [Obj.cells #[.slice A0 a1.length c0, .slice A1 a2.length c1] 24, Obj.cells #[.slice A2 b1.length c2, .slice A3 b2.length c3] 24] 0 _ rfl⟩
  have BX_b : Aside0 (u1.heap[w.heap.size + 1]? = some (.cells #[.slice A2 b1.length c2, .slice A3 b2.length c3] 24 (0, 0))) := ⟨by rw [← hu1]; exact blk_fold w [Obj.cells #[.slice A0 a1.length c0, .slice A1 a2.length c1] 24, Obj.cells #[.slice A2 b1.length c2, .slice A3 b2.length c3] 24] 1 _ rfl⟩
  have Hu1 := Aside0.mk hu1
  replace RD_a0 := Aside0.mk (RD_a0.out.below hbu1)
  replace RD_a1 := Aside0.mk (RD_a1.out.below hbu1)
  replace RD_b0 := Aside0.mk (RD_b0.out.below hbu1)
  replace RD_b1 := Aside0.mk (RD_b1.out.below hbu1)
  replace BW := Aside0.mk (below_then BW.out BW.out.size hbu1)
  clear hbu1 hu1
  go_wp2_with fail
  rw [Hu1.out]
  clear Hu1
  refine (awake04 _).mono ?_
  rintro e v2 ⟨rfl, hb⟩
  replace BX_a := Aside0.mk (blk_below BX_a.out hb)
  replace BX_b := Aside0.mk (blk_below BX_b.out hb)
  replace RD_a0 := Aside0.mk (RD_a0.out.below hb)
  replace RD_a1 := Aside0.mk (RD_a1.out.below hb)
  replace RD_b0 := Aside0.mk (RD_b0.out.below hb)
  replace RD_b1 := Aside0.mk (RD_b1.out.below hb)
  replace BW := Aside0.mk (below_then BW.out BW.out.size hb)
  clear hb
  have q3 : v2.cell? ⟨w.heap.size, 0, none⟩ = some (.slice A0 a1.length c0) := (blk_cell BX_a.out 0).trans rfl
  have q4 : v2.cell? ⟨w.heap.size, 1, none⟩ = some (.slice A1 a2.length c1) := (blk_cell BX_a.out 1).trans rfl
  go_wp2_with fail
  clear q3 q4
  refine (few_r (b := true) (s := a1) (d := a2) G1.out).mono ?_
  rintro e v5 ⟨rfl, hb⟩
  replace BX_a := Aside0.mk (blk_below BX_a.out hb)
  replace BX_b := Aside0.mk (blk_below BX_b.out hb)
  replace RD_a0 := Aside0.mk (RD_a0.out.below hb)
  replace RD_a1 := Aside0.mk (RD_a1.out.below hb)
  replace RD_b0 := Aside0.mk (RD_b0.out.below hb)
  replace RD_b1 := Aside0.mk (RD_b1.out.below hb)
  replace BW := Aside0.mk (below_then BW.out BW.out.size hb)
  clear hb
  have q6 : v5.cell? ⟨w.heap.size + 1, 0, none⟩ = some (.slice A2 b1.length c2) := (blk_cell BX_b.out 0).trans rfl
  have q7 : v5.cell? ⟨w.heap.size + 1, 1, none⟩ = some (.slice A3 b2.length c3) := (blk_cell BX_b.out 1).trans rfl
  go_wp2_with fail
  clear q6 q7
  refine (few_r (b := false) (s := b1) (d := b2) G2.out).mono ?_
  rintro e v8 ⟨rfl, hb⟩
  replace BX_a := Aside0.mk (blk_below BX_a.out hb)
  replace BX_b := Aside0.mk (blk_below BX_b.out hb)
  replace RD_a0 := Aside0.mk (RD_a0.out.below hb)
  replace RD_a1 := Aside0.mk (RD_a1.out.below hb)
  replace RD_b0 := Aside0.mk (RD_b0.out.below hb)
  replace RD_b1 := Aside0.mk (RD_b1.out.below hb)
  replace BW := Aside0.mk (below_then BW.out BW.out.size hb)
  clear hb
  go_wp2_with fail
  go_ret
  exact ⟨rfl, BW.out⟩
set_option maxRecDepth 100000 in
theorem doubles_bad3 (A0 : Option Addr) (c0 : Nat) (a1 : List Int) (A1 : Option Addr) (c1 : Nat) (a2 : List Int) (A2 : Option Addr) (c2 : Nat) (b1 : List Int) (A3 : Option Addr) (c3 : Nat) (b2 : List Int) (w : World)
    (r0 : Rd w (.slice A0 a1.length c0) a1) (r1 : Rd w (.slice A1 a2.length c1) a2) (i1 : allI a2) (r2 : Rd w (.slice A2 b1.length c2) b1) (r3 : Rd w (.slice A3 b2.length c3) b2) (i2 : allI b2) (g1 : fewB a1 a2 = true) (g2 : fewB b1 b2 = true) (g : tOk a1 a2 = false) :
    Calls Try.prog 6 #[.agg #[.slice A0 a1.length c0, .slice A1 a2.length c1], .agg #[.slice A2 b1.length c2, .slice A3 b2.length c3]] w fun e w' => e = .returned (.bool true) ∧ Below w.heap.size w w' := by
  have G1 := Aside0.mk g1
  have G2 := Aside0.mk g2
  have G3 := Aside0.mk g
  clear g g1 g2
  have RD_a0 := Aside0.mk r0
  have RD_a1 := Aside0.mk r1
  have RD_b0 := Aside0.mk r2
  have RD_b1 := Aside0.mk r3
  have I1 := Aside0.mk i1
  have I2 := Aside0.mk i2
  clear r0 r1 r2 r3 i1 i2
  have BW : Aside0 (Below w.heap.size w w) := ⟨Below.refl _ _⟩
  go_enter Try.func6, Try.ntmps6
  obtain ⟨u1, hu1⟩ : ∃ u, ((w.alloc (Obj.cells #[.slice A0 a1.length c0, .slice A1 a2.length c1] 24)).alloc (Obj.cells #[.slice A2 b1.length c2, .slice A3 b2.length c3] 24)) = u := ⟨_, rfl⟩
  have hbu1 : Below w.heap.size w u1 := by rw [← hu1]; exact below_fold w [Obj.cells #[.slice A0 a1.length c0, .slice A1 a2.length c1] 24, Obj.cells #[.slice A2 b1.length c2, .slice A3 b2.length c3] 24]
  have BX_a : Aside0 (u1.heap[w.heap.size]? = some (.cells #[.slice A0 a1.length c0, .slice A1 a2.length c1] 24 (0, 0))) := ⟨by rw [← hu1]; exact blk_fold w [Obj.cells #[.slice A0 a1.length c0, .slice A1 a2.length c1] 24, Obj.cells #[.slice A2 b1.length c2, .slice A3 b2.length c3] 24] 0 _ rfl⟩
  have BX_b : Aside0 (u1.heap[w.heap.size + 1]? = some (.cells #[.slice A2 b1.length c2, .slice A3 b2.length c3] 24 (0, 0))) := ⟨by rw [← hu1]; exact blk_fold w [Obj.cells #[.slice A0 a1.length c0, .slice A1 a2.length c1] 24, Obj.cells #[.slice A2 b1.length c2, .slice A3 b2.length c3] 24] 1 _ rfl⟩
  have Hu1 := Aside0.mk hu1
  replace RD_a0 := Aside0.mk (RD_a0.out.below hbu1)
  replace RD_a1 := Aside0.mk (RD_a1.out.below hbu1)
  replace RD_b0 := Aside0.mk (RD_b0.out.below hbu1)
  replace RD_b1 := Aside0.mk (RD_b1.out.below hbu1)
  replace BW := Aside0.mk (below_then BW.out BW.out.size hbu1)
  clear hbu1 hu1
  go_wp2_with fail
  rw [Hu1.out]
  clear Hu1
  refine (awake04 _).mono ?_
  rintro e v2 ⟨rfl, hb⟩
  replace BX_a := Aside0.mk (blk_below BX_a.out hb)
  replace BX_b := Aside0.mk (blk_below BX_b.out hb)
  replace RD_a0 := Aside0.mk (RD_a0.out.below hb)
  replace RD_a1 := Aside0.mk (RD_a1.out.below hb)
  replace RD_b0 := Aside0.mk (RD_b0.out.below hb)
  replace RD_b1 := Aside0.mk (RD_b1.out.below hb)
  replace BW := Aside0.mk (below_then BW.out BW.out.size hb)
  clear hb
  have q3 : v2.cell? ⟨w.heap.size, 0, none⟩ = some (.slice A0 a1.length c0) := (blk_cell BX_a.out 0).trans rfl
  have q4 : v2.cell? ⟨w.heap.size, 1, none⟩ = some (.slice A1 a2.length c1) := (blk_cell BX_a.out 1).trans rfl
  go_wp2_with fail
  clear q3 q4
  refine (few_r (b := true) (s := a1) (d := a2) G1.out).mono ?_
  rintro e v5 ⟨rfl, hb⟩
  replace BX_a := Aside0.mk (blk_below BX_a.out hb)
  replace BX_b := Aside0.mk (blk_below BX_b.out hb)
  replace RD_a0 := Aside0.mk (RD_a0.out.below hb)
  replace RD_a1 := Aside0.mk (RD_a1.out.below hb)
  replace RD_b0 := Aside0.mk (RD_b0.out.below hb)
  replace RD_b1 := Aside0.mk (RD_b1.out.below hb)
  replace BW := Aside0.mk (below_then BW.out BW.out.size hb)
  clear hb
  have q6 : v5.cell? ⟨w.heap.size + 1, 0, none⟩ = some (.slice A2 b1.length c2) := (blk_cell BX_b.out 0).trans rfl
  have q7 : v5.cell? ⟨w.heap.size + 1, 1, none⟩ = some (.slice A3 b2.length c3) := (blk_cell BX_b.out 1).trans rfl
  go_wp2_with fail
  clear q6 q7
  refine (few_r (b := true) (s := b1) (d := b2) G2.out).mono ?_
  rintro e v8 ⟨rfl, hb⟩
  replace BX_a := Aside0.mk (blk_below BX_a.out hb)
  replace BX_b := Aside0.mk (blk_below BX_b.out hb)
  replace RD_a0 := Aside0.mk (RD_a0.out.below hb)
  replace RD_a1 := Aside0.mk (RD_a1.out.below hb)
  replace RD_b0 := Aside0.mk (RD_b0.out.below hb)
  replace RD_b1 := Aside0.mk (RD_b1.out.below hb)
  replace BW := Aside0.mk (below_then BW.out BW.out.size hb)
  clear hb
  have q9 : v8.cell? ⟨w.heap.size, 0, none⟩ = some (.slice A0 a1.length c0) := (blk_cell BX_a.out 0).trans rfl
  have q10 : v8.cell? ⟨w.heap.size, 1, none⟩ = some (.slice A1 a2.length c1) := (blk_cell BX_a.out 1).trans rfl
  go_wp2_with fail
  clear q9 q10
  refine (tcheck_r (b := false) G3.out RD_a0.out).mono ?_
  rintro e v11 ⟨rfl, hb⟩
  replace BX_a := Aside0.mk (blk_below BX_a.out hb)
  replace BX_b := Aside0.mk (blk_below BX_b.out hb)
  replace RD_a0 := Aside0.mk (RD_a0.out.below hb)
  replace RD_a1 := Aside0.mk (RD_a1.out.below hb)
  replace RD_b0 := Aside0.mk (RD_b0.out.below hb)
  replace RD_b1 := Aside0.mk (RD_b1.out.below hb)
  replace BW := Aside0.mk (below_then BW.out BW.out.size hb)
  clear hb
  go_wp2_with fail
  go_ret
  exact ⟨rfl, BW.out⟩
set_option maxRecDepth 100000 in
theorem doubles_bad4 (A0 : Option Addr) (c0 : Nat) (a1 : List Int) (A1 : Option Addr) (c1 : Nat) (a2 : List Int) (A2 : Option Addr) (c2 : Nat) (b1 : List Int) (A3 : Option Addr) (c3 : Nat) (b2 : List Int) (w : World)
    (r0 : Rd w (.slice A0 a1.length c0) a1) (r1 : Rd w (.slice A1 a2.length c1) a2) (i1 : allI a2) (r2 : Rd w (.slice A2 b1.length c2) b1) (r3 : Rd w (.slice A3 b2.length c3) b2) (i2 : allI b2) (g1 : fewB a1 a2 = true) (g2 : fewB b1 b2 = true) (g3 : tOk a1 a2 = true) (g : tOk b1 b2 = false) :
    Calls Try.prog 6 #[.agg #[.slice A0 a1.length c0, .slice A1 a2.length c1], .agg #[.slice A2 b1.length c2, .slice A3 b2.length c3]] w fun e w' => e = .returned (.bool true) ∧ Below w.heap.size w w' := by
  have G1 := Aside0.mk g1
  have G2 := Aside0.mk g2
  have G3 := Aside0.mk g3
  have G4 := Aside0.mk g
  clear g g1 g2 g3
  have RD_a0 := Aside0.mk r0
  have RD_a1 := Aside0.mk r1
  have RD_b0 := Aside0.mk r2
  have RD_b1 := Aside0.mk r3
  have I1 := Aside0.mk i1
  have I2 := Aside0.mk i2
  clear r0 r1 r2 r3 i1 i2
  have BW : Aside0 (Below w.heap.size w w) := ⟨Below.refl _ _⟩
  go_enter Try.func6, Try.ntmps6
  obtain ⟨u1, hu1⟩ : ∃ u, ((w.alloc (Obj.cells #[.slice A0 a1.length c0, .slice A1 a2.length c1] 24)).alloc (Obj.cells #[.slice A2 b1.length c2, .slice A3 b2.length c3] 24)) = u := ⟨_, rfl⟩
  have hbu1 : Below w.heap.size w u1 := by rw [← hu1]; exact below_fold w [Obj.cells #[.slice A0 a1.length c0, .slice A1 a2.length c1] 24, Obj.cells #[.slice A2 b1.length c2, .slice A3 b2.length c3] 24]
  have BX_a : Aside0 (u1.heap[w.heap.size]? = some (.cells #[.slice A0 a1.length c0, .slice A1 a2.length c1] 24 (0, 0))) := ⟨by rw [← hu1]; exact blk_fold w [Obj.cells #[.slice A0 a1.length c0, .slice A1 a2.length c1] 24, Obj.cells #[.slice A2 b1.length c2, .slice A3 b2.length c3] 24] 0 _ rfl⟩
  have BX_b : Aside0 (u1.heap[w.heap.size + 1]? = some (.cells #[.slice A2 b1.length c2, .slice A3 b2.length c3] 24 (0, 0))) := ⟨by rw [← hu1]; exact blk_fold w [Obj.cells #[.slice A0 a1.length c0, .slice A1 a2.length c1] 24, Obj.cells #[.slice A2 b1.length c2, .slice A3 b2.length c3] 24] 1 _ rfl⟩
  have Hu1 := Aside0.mk hu1
  replace RD_a0 := Aside0.mk (RD_a0.out.below hbu1)
  replace RD_a1 := Aside0.mk (RD_a1.out.below hbu1)
  replace RD_b0 := Aside0.mk (RD_b0.out.below hbu1)
  replace RD_b1 := Aside0.mk (RD_b1.out.below hbu1)
  replace BW := Aside0.mk (below_then BW.out BW.out.size hbu1)
  clear hbu1 hu1
  go_wp2_with fail
  rw [Hu1.out]
  clear Hu1
  refine (awake04 _).mono ?_
  rintro e v2 ⟨rfl, hb⟩
  replace BX_a := Aside0.mk (blk_below BX_a.out hb)
  replace BX_b := Aside0.mk (blk_below BX_b.out hb)
  replace RD_a0 := Aside0.mk (RD_a0.out.below hb)
  replace RD_a1 := Aside0.mk (RD_a1.out.below hb)
  replace RD_b0 := Aside0.mk (RD_b0.out.below hb)
  replace RD_b1 := Aside0.mk (RD_b1.out.below hb)
  replace BW := Aside0.mk (below_then BW.out BW.out.size hb)
  clear hb
  have q3 : v2.cell? ⟨w.heap.size, 0, none⟩ = some (.slice A0 a1.length c0) := (blk_cell BX_a.out 0).trans rfl
  have q4 : v2.cell? ⟨w.heap.size, 1, none⟩ = some (.slice A1 a2.length c1) := (blk_cell BX_a.out 1).trans rfl
  go_wp2_with fail
  clear q3 q4
  refine (few_r (b := true) (s := a1) (d := a2) G1.out).mono ?_
  rintro e v5 ⟨rfl, hb⟩
  replace BX_a := Aside0.mk (blk_below BX_a.out hb)
  replace BX_b := Aside0.mk (blk_below BX_b.out hb)
  replace RD_a0 := Aside0.mk (RD_a0.out.below hb)
  replace RD_a1 := Aside0.mk (RD_a1.out.below hb)
  replace RD_b0 := Aside0.mk (RD_b0.out.below hb)
  replace RD_b1 := Aside0.mk (RD_b1.out.below hb)
  replace BW := Aside0.mk (below_then BW.out BW.out.size hb)
  clear hb
  have q6 : v5.cell? ⟨w.heap.size + 1, 0, none⟩ = some (.slice A2 b1.length c2) := (blk_cell BX_b.out 0).trans rfl
  have q7 : v5.cell? ⟨w.heap.size + 1, 1, none⟩ = some (.slice A3 b2.length c3) := (blk_cell BX_b.out 1).trans rfl
  go_wp2_with fail
  clear q6 q7
  refine (few_r (b := true) (s := b1) (d := b2) G2.out).mono ?_
  rintro e v8 ⟨rfl, hb⟩
  replace BX_a := Aside0.mk (blk_below BX_a.out hb)
  replace BX_b := Aside0.mk (blk_below BX_b.out hb)
  replace RD_a0 := Aside0.mk (RD_a0.out.below hb)
  replace RD_a1 := Aside0.mk (RD_a1.out.below hb)
  replace RD_b0 := Aside0.mk (RD_b0.out.below hb)
  replace RD_b1 := Aside0.mk (RD_b1.out.below hb)
  replace BW := Aside0.mk (below_then BW.out BW.out.size hb)
  clear hb
  have q9 : v8.cell? ⟨w.heap.size, 0, none⟩ = some (.slice A0 a1.length c0) := (blk_cell BX_a.out 0).trans rfl
  have q10 : v8.cell? ⟨w.heap.size, 1, none⟩ = some (.slice A1 a2.length c1) := (blk_cell BX_a.out 1).trans rfl
  go_wp2_with fail
  clear q9 q10
  refine (tcheck_r (b := true) G3.out RD_a0.out).mono ?_
  rintro e v11 ⟨rfl, hb⟩
  replace BX_a := Aside0.mk (blk_below BX_a.out hb)
  replace BX_b := Aside0.mk (blk_below BX_b.out hb)
  replace RD_a0 := Aside0.mk (RD_a0.out.below hb)
  replace RD_a1 := Aside0.mk (RD_a1.out.below hb)
  replace RD_b0 := Aside0.mk (RD_b0.out.below hb)
  replace RD_b1 := Aside0.mk (RD_b1.out.below hb)
  replace BW := Aside0.mk (below_then BW.out BW.out.size hb)
  clear hb
  have q12 : v11.cell? ⟨w.heap.size + 1, 0, none⟩ = some (.slice A2 b1.length c2) := (blk_cell BX_b.out 0).trans rfl
  have q13 : v11.cell? ⟨w.heap.size + 1, 1, none⟩ = some (.slice A3 b2.length c3) := (blk_cell BX_b.out 1).trans rfl
  go_wp2_with fail
  clear q12 q13
  refine (tcheck_r (b := false) G4.out RD_b0.out).mono ?_
  rintro e v14 ⟨rfl, hb⟩
  replace BX_a := Aside0.mk (blk_below BX_a.out hb)
  replace BX_b := Aside0.mk (blk_below BX_b.out hb)
  replace RD_a0 := Aside0.mk (RD_a0.out.below hb)
  replace RD_a1 := Aside0.mk (RD_a1.out.below hb)
  replace RD_b0 := Aside0.mk (RD_b0.out.below hb)
  replace RD_b1 := Aside0.mk (RD_b1.out.below hb)
  replace BW := Aside0.mk (below_then BW.out BW.out.size hb)
  clear hb
  go_wp2_with fail
  go_ret
  exact ⟨rfl, BW.out⟩
set_option maxRecDepth 100000 in
theorem doubles_good0 (A0 : Option Addr) (c0 : Nat) (a1 : List Int) (A1 : Option Addr) (c1 : Nat) (a2 : List Int) (A2 : Option Addr) (c2 : Nat) (b1 : List Int) (A3 : Option Addr) (c3 : Nat) (b2 : List Int) (w : World)
    (r0 : Rd w (.slice A0 a1.length c0) a1) (r1 : Rd w (.slice A1 a2.length c1) a2) (i1 : allI a2) (r2 : Rd w (.slice A2 b1.length c2) b1) (r3 : Rd w (.slice A3 b2.length c3) b2) (i2 : allI b2) (g1 : fewB a1 a2 = true) (g2 : fewB b1 b2 = true) (g3 : tOk a1 a2 = true) (g4 : tOk b1 b2 = true)
    (ss ds : List Int) (es : Int) (hs : elemTwo 10 a1 a2 a1 a2 = ((ss, ds), es)) (st dt : List Int) (et : Int) (ht : elemTwo 12 a1 a2 [] [8589934592] = ((st, dt), et)) (sd dd : List Int) (ed : Int) (hd : elemTwo 11 a1 a2 b1 b2 = ((sd, dd), ed)) (sc dc : List Int) (ec : Int) (hc : elemTwo 11 b1 b2 a1 a2 = ((sc, dc), ec)) (sn dn : List Int) (en : Int) (hn : elemOne 20 sc dc = ((sn, dn), en)) (sr dr : List Int) (er : Int) (hr : elemOne 23 a1 a2 = ((sr, dr), er)) (sq dq : List Int) (eq : Int) (hq : elemTwo 12 sr dr sr dr = ((sq, dq), eq))
    (ic : allI dc) (ir : allI dr) (l64 : a2.length ≤ 64)
    (e1 : es = et) (e2 : sameB ss ds st dt = true) (e3 : ed = 0 → ec = 0 → en = 0 ∧ sameB sd dd sn dn = true) (j : ¬ er = 0) :
    Calls Try.prog 6 #[.agg #[.slice A0 a1.length c0, .slice A1 a2.length c1], .agg #[.slice A2 b1.length c2, .slice A3 b2.length c3]] w fun e w' => e = .returned (.bool true) ∧ Below w.heap.size w w' := by
  have zr : (er == 0) = false := by simpa using j
  clear j
  have G1 := Aside0.mk g1
  have G2 := Aside0.mk g2
  have G3 := Aside0.mk g3
  have G4 := Aside0.mk g4
  have Hs := Aside0.mk hs
  have Ht := Aside0.mk ht
  have Hd := Aside0.mk hd
  have Hc := Aside0.mk hc
  have Hn := Aside0.mk hn
  have Hr := Aside0.mk hr
  have Hq := Aside0.mk hq
  have IC := Aside0.mk ic
  have IR := Aside0.mk ir
  have E2 := Aside0.mk e2
  have E3 := Aside0.mk e3
  have L64 := Aside0.mk l64
  have IO : Aside0 (allI [8589934592]) := ⟨fun x hx => by rw [List.mem_singleton] at hx; subst hx; unfold isI64; omega⟩
  have z1 : (es == et) = true := by simpa using e1
  clear g1 g2 g3 g4 ic ir l64 e1 e2 e3 hs ht hd hc hn hr hq
  have RD_a0 := Aside0.mk r0
  have RD_a1 := Aside0.mk r1
  have RD_b0 := Aside0.mk r2
  have RD_b1 := Aside0.mk r3
  have I1 := Aside0.mk i1
  have I2 := Aside0.mk i2
  clear r0 r1 r2 r3 i1 i2
  have BW : Aside0 (Below w.heap.size w w) := ⟨Below.refl _ _⟩
  go_enter Try.func6, Try.ntmps6
  obtain ⟨u1, hu1⟩ : ∃ u, ((w.alloc (Obj.cells #[.slice A0 a1.length c0, .slice A1 a2.length c1] 24)).alloc (Obj.cells #[.slice A2 b1.length c2, .slice A3 b2.length c3] 24)) = u := ⟨_, rfl⟩
  have hbu1 : Below w.heap.size w u1 := by rw [← hu1]; exact below_fold w [Obj.cells #[.slice A0 a1.length c0, .slice A1 a2.length c1] 24, Obj.cells #[.slice A2 b1.length c2, .slice A3 b2.length c3] 24]
  have BX_a : Aside0 (u1.heap[w.heap.size]? = some (.cells #[.slice A0 a1.length c0, .slice A1 a2.length c1] 24 (0, 0))) := ⟨by rw [← hu1]; exact blk_fold w [Obj.cells #[.slice A0 a1.length c0, .slice A1 a2.length c1] 24, Obj.cells #[.slice A2 b1.length c2, .slice A3 b2.length c3] 24] 0 _ rfl⟩
  have BX_b : Aside0 (u1.heap[w.heap.size + 1]? = some (.cells #[.slice A2 b1.length c2, .slice A3 b2.length c3] 24 (0, 0))) := ⟨by rw [← hu1]; exact blk_fold w [Obj.cells #[.slice A0 a1.length c0, .slice A1 a2.length c1] 24, Obj.cells #[.slice A2 b1.length c2, .slice A3 b2.length c3] 24] 1 _ rfl⟩
  have Hu1 := Aside0.mk hu1
  replace RD_a0 := Aside0.mk (RD_a0.out.below hbu1)
  replace RD_a1 := Aside0.mk (RD_a1.out.below hbu1)
  replace RD_b0 := Aside0.mk (RD_b0.out.below hbu1)
  replace RD_b1 := Aside0.mk (RD_b1.out.below hbu1)
  replace BW := Aside0.mk (below_then BW.out BW.out.size hbu1)
  clear hbu1 hu1
  go_wp2_with fail
  rw [Hu1.out]
  clear Hu1
  refine (awake04 _).mono ?_
  rintro e v2 ⟨rfl, hb⟩
  replace BX_a := Aside0.mk (blk_below BX_a.out hb)
  replace BX_b := Aside0.mk (blk_below BX_b.out hb)
  replace RD_a0 := Aside0.mk (RD_a0.out.below hb)
  replace RD_a1 := Aside0.mk (RD_a1.out.below hb)
  replace RD_b0 := Aside0.mk (RD_b0.out.below hb)
  replace RD_b1 := Aside0.mk (RD_b1.out.below hb)
  replace BW := Aside0.mk (below_then BW.out BW.out.size hb)
  clear hb
  have q3 : v2.cell? ⟨w.heap.size, 0, none⟩ = some (.slice A0 a1.length c0) := (blk_cell BX_a.out 0).trans rfl
  have q4 : v2.cell? ⟨w.heap.size, 1, none⟩ = some (.slice A1 a2.length c1) := (blk_cell BX_a.out 1).trans rfl
  go_wp2_with fail
  clear q3 q4
  refine (few_r (b := true) (s := a1) (d := a2) G1.out).mono ?_
  rintro e v5 ⟨rfl, hb⟩
  replace BX_a := Aside0.mk (blk_below BX_a.out hb)
  replace BX_b := Aside0.mk (blk_below BX_b.out hb)
  replace RD_a0 := Aside0.mk (RD_a0.out.below hb)
  replace RD_a1 := Aside0.mk (RD_a1.out.below hb)
  replace RD_b0 := Aside0.mk (RD_b0.out.below hb)
  replace RD_b1 := Aside0.mk (RD_b1.out.below hb)
  replace BW := Aside0.mk (below_then BW.out BW.out.size hb)
  clear hb
  have q6 : v5.cell? ⟨w.heap.size + 1, 0, none⟩ = some (.slice A2 b1.length c2) := (blk_cell BX_b.out 0).trans rfl
  have q7 : v5.cell? ⟨w.heap.size + 1, 1, none⟩ = some (.slice A3 b2.length c3) := (blk_cell BX_b.out 1).trans rfl
  go_wp2_with fail
  clear q6 q7
  refine (few_r (b := true) (s := b1) (d := b2) G2.out).mono ?_
  rintro e v8 ⟨rfl, hb⟩
  replace BX_a := Aside0.mk (blk_below BX_a.out hb)
  replace BX_b := Aside0.mk (blk_below BX_b.out hb)
  replace RD_a0 := Aside0.mk (RD_a0.out.below hb)
  replace RD_a1 := Aside0.mk (RD_a1.out.below hb)
  replace RD_b0 := Aside0.mk (RD_b0.out.below hb)
  replace RD_b1 := Aside0.mk (RD_b1.out.below hb)
  replace BW := Aside0.mk (below_then BW.out BW.out.size hb)
  clear hb
  have q9 : v8.cell? ⟨w.heap.size, 0, none⟩ = some (.slice A0 a1.length c0) := (blk_cell BX_a.out 0).trans rfl
  have q10 : v8.cell? ⟨w.heap.size, 1, none⟩ = some (.slice A1 a2.length c1) := (blk_cell BX_a.out 1).trans rfl
  go_wp2_with fail
  clear q9 q10
  refine (tcheck_r (b := true) G3.out RD_a0.out).mono ?_
  rintro e v11 ⟨rfl, hb⟩
  replace BX_a := Aside0.mk (blk_below BX_a.out hb)
  replace BX_b := Aside0.mk (blk_below BX_b.out hb)
  replace RD_a0 := Aside0.mk (RD_a0.out.below hb)
  replace RD_a1 := Aside0.mk (RD_a1.out.below hb)
  replace RD_b0 := Aside0.mk (RD_b0.out.below hb)
  replace RD_b1 := Aside0.mk (RD_b1.out.below hb)
  replace BW := Aside0.mk (below_then BW.out BW.out.size hb)
  clear hb
  have q12 : v11.cell? ⟨w.heap.size + 1, 0, none⟩ = some (.slice A2 b1.length c2) := (blk_cell BX_b.out 0).trans rfl
  have q13 : v11.cell? ⟨w.heap.size + 1, 1, none⟩ = some (.slice A3 b2.length c3) := (blk_cell BX_b.out 1).trans rfl
  go_wp2_with fail
  clear q12 q13
  refine (tcheck_r (b := true) G4.out RD_b0.out).mono ?_
  rintro e v14 ⟨rfl, hb⟩
  replace BX_a := Aside0.mk (blk_below BX_a.out hb)
  replace BX_b := Aside0.mk (blk_below BX_b.out hb)
  replace RD_a0 := Aside0.mk (RD_a0.out.below hb)
  replace RD_a1 := Aside0.mk (RD_a1.out.below hb)
  replace RD_b0 := Aside0.mk (RD_b0.out.below hb)
  replace RD_b1 := Aside0.mk (RD_b1.out.below hb)
  replace BW := Aside0.mk (below_then BW.out BW.out.size hb)
  clear hb
  have q15 : v14.cell? ⟨w.heap.size, 0, none⟩ = some (.slice A0 a1.length c0) := (blk_cell BX_a.out 0).trans rfl
  have q16 : v14.cell? ⟨w.heap.size, 1, none⟩ = some (.slice A1 a2.length c1) := (blk_cell BX_a.out 1).trans rfl
  go_wp2_with fail
  clear q15 q16
  refine (two_r 10 Hs.out RD_a0.out RD_a1.out RD_a0.out RD_a1.out I1.out I1.out).mono ?_
  rintro e v17 ⟨As, ks, A's, k's, rfl, r0, r1, hb⟩
  have RD_s0 := Aside0.mk r0
  have RD_s1 := Aside0.mk r1
  replace BX_a := Aside0.mk (blk_below BX_a.out hb)
  replace BX_b := Aside0.mk (blk_below BX_b.out hb)
  replace RD_a0 := Aside0.mk (RD_a0.out.below hb)
  replace RD_a1 := Aside0.mk (RD_a1.out.below hb)
  replace RD_b0 := Aside0.mk (RD_b0.out.below hb)
  replace RD_b1 := Aside0.mk (RD_b1.out.below hb)
  replace BW := Aside0.mk (below_then BW.out BW.out.size hb)
  clear hb r0 r1
  have q18 : (v17.alloc (Obj.cells #[.slice As ss.length ks, .slice A's ds.length k's] 24)).cell? ⟨w.heap.size, 0, none⟩ = some (.slice A0 a1.length c0) := (blk_cell (blk_below BX_a.out (below_fold v17 [Obj.cells #[.slice As ss.length ks, .slice A's ds.length k's] 24])) 0).trans rfl
  have q19 : (v17.alloc (Obj.cells #[.slice As ss.length ks, .slice A's ds.length k's] 24)).cell? ⟨w.heap.size, 1, none⟩ = some (.slice A1 a2.length c1) := (blk_cell (blk_below BX_a.out (below_fold v17 [Obj.cells #[.slice As ss.length ks, .slice A's ds.length k's] 24])) 1).trans rfl
  obtain ⟨u20, hu20⟩ : ∃ u, ((v17.alloc (Obj.cells #[.slice As ss.length ks, .slice A's ds.length k's] 24)).alloc (Obj.cells #[.int .i64 8589934592] 3)) = u := ⟨_, rfl⟩
  have hbu20 : Below v17.heap.size v17 u20 := by rw [← hu20]; exact below_fold v17 [Obj.cells #[.slice As ss.length ks, .slice A's ds.length k's] 24, Obj.cells #[.int .i64 8589934592] 3]
  have BX_s : Aside0 (u20.heap[v17.heap.size]? = some (.cells #[.slice As ss.length ks, .slice A's ds.length k's] 24 (0, 0))) := ⟨by rw [← hu20]; exact blk_fold v17 [Obj.cells #[.slice As ss.length ks, .slice A's ds.length k's] 24, Obj.cells #[.int .i64 8589934592] 3] 0 _ rfl⟩
  have RD_o : Aside0 (Rd u20 (.slice (some ⟨v17.heap.size + 1, 0, none⟩) 1 1) [8589934592]) := ⟨by rw [← hu20]; exact Rd.of_blk (xs := [8589934592]) (blk_fold v17 [Obj.cells #[.slice As ss.length ks, .slice A's ds.length k's] 24, Obj.cells #[.int .i64 8589934592] 3] 1 _ rfl) (by decide)⟩
  have Hu20 := Aside0.mk hu20
  replace BX_a := Aside0.mk (blk_below BX_a.out hbu20)
  replace BX_b := Aside0.mk (blk_below BX_b.out hbu20)
  replace RD_a0 := Aside0.mk (RD_a0.out.below hbu20)
  replace RD_a1 := Aside0.mk (RD_a1.out.below hbu20)
  replace RD_b0 := Aside0.mk (RD_b0.out.below hbu20)
  replace RD_b1 := Aside0.mk (RD_b1.out.below hbu20)
  replace RD_s0 := Aside0.mk (RD_s0.out.below hbu20)
  replace RD_s1 := Aside0.mk (RD_s1.out.below hbu20)
  replace BW := Aside0.mk (below_then BW.out BW.out.size hbu20)
  clear hbu20 hu20
  go_wp2_with fail
  rw [Hu20.out]
  clear q18 q19
  clear Hu20
  refine (two_r 12 Ht.out RD_a0.out RD_a1.out (A2 := none) (c2 := 0) (Rd.nil _) RD_o.out I1.out IO.out).mono ?_
  rintro e v21 ⟨At, kt, A't, k't, rfl, r0, r1, hb⟩
  have RD_t0 := Aside0.mk r0
  have RD_t1 := Aside0.mk r1
  replace BX_a := Aside0.mk (blk_below BX_a.out hb)
  replace BX_b := Aside0.mk (blk_below BX_b.out hb)
  replace BX_s := Aside0.mk (blk_below BX_s.out hb)
  replace RD_a0 := Aside0.mk (RD_a0.out.below hb)
  replace RD_a1 := Aside0.mk (RD_a1.out.below hb)
  replace RD_b0 := Aside0.mk (RD_b0.out.below hb)
  replace RD_b1 := Aside0.mk (RD_b1.out.below hb)
  replace RD_s0 := Aside0.mk (RD_s0.out.below hb)
  replace RD_s1 := Aside0.mk (RD_s1.out.below hb)
  replace RD_o := Aside0.mk (RD_o.out.below hb)
  replace BW := Aside0.mk (below_then BW.out BW.out.size hb)
  clear hb r0 r1
  have q22 : (v21.alloc (Obj.cells #[.slice At st.length kt, .slice A't dt.length k't] 24)).cell? ⟨w.heap.size, 0, none⟩ = some (.slice A0 a1.length c0) := (blk_cell (blk_below BX_a.out (below_fold v21 [Obj.cells #[.slice At st.length kt, .slice A't dt.length k't] 24])) 0).trans rfl
  have q23 : (v21.alloc (Obj.cells #[.slice At st.length kt, .slice A't dt.length k't] 24)).cell? ⟨w.heap.size, 1, none⟩ = some (.slice A1 a2.length c1) := (blk_cell (blk_below BX_a.out (below_fold v21 [Obj.cells #[.slice At st.length kt, .slice A't dt.length k't] 24])) 1).trans rfl
  have q24 : (v21.alloc (Obj.cells #[.slice At st.length kt, .slice A't dt.length k't] 24)).cell? ⟨w.heap.size + 1, 0, none⟩ = some (.slice A2 b1.length c2) := (blk_cell (blk_below BX_b.out (below_fold v21 [Obj.cells #[.slice At st.length kt, .slice A't dt.length k't] 24])) 0).trans rfl
  have q25 : (v21.alloc (Obj.cells #[.slice At st.length kt, .slice A't dt.length k't] 24)).cell? ⟨w.heap.size + 1, 1, none⟩ = some (.slice A3 b2.length c3) := (blk_cell (blk_below BX_b.out (below_fold v21 [Obj.cells #[.slice At st.length kt, .slice A't dt.length k't] 24])) 1).trans rfl
  obtain ⟨u26, hu26⟩ : ∃ u, (v21.alloc (Obj.cells #[.slice At st.length kt, .slice A't dt.length k't] 24)) = u := ⟨_, rfl⟩
  have hbu26 : Below v21.heap.size v21 u26 := by rw [← hu26]; exact below_fold v21 [Obj.cells #[.slice At st.length kt, .slice A't dt.length k't] 24]
  have BX_t : Aside0 (u26.heap[v21.heap.size]? = some (.cells #[.slice At st.length kt, .slice A't dt.length k't] 24 (0, 0))) := ⟨by rw [← hu26]; exact blk_fold v21 [Obj.cells #[.slice At st.length kt, .slice A't dt.length k't] 24] 0 _ rfl⟩
  have Hu26 := Aside0.mk hu26
  replace BX_a := Aside0.mk (blk_below BX_a.out hbu26)
  replace BX_b := Aside0.mk (blk_below BX_b.out hbu26)
  replace BX_s := Aside0.mk (blk_below BX_s.out hbu26)
  replace RD_a0 := Aside0.mk (RD_a0.out.below hbu26)
  replace RD_a1 := Aside0.mk (RD_a1.out.below hbu26)
  replace RD_b0 := Aside0.mk (RD_b0.out.below hbu26)
  replace RD_b1 := Aside0.mk (RD_b1.out.below hbu26)
  replace RD_s0 := Aside0.mk (RD_s0.out.below hbu26)
  replace RD_s1 := Aside0.mk (RD_s1.out.below hbu26)
  replace RD_o := Aside0.mk (RD_o.out.below hbu26)
  replace RD_t0 := Aside0.mk (RD_t0.out.below hbu26)
  replace RD_t1 := Aside0.mk (RD_t1.out.below hbu26)
  replace BW := Aside0.mk (below_then BW.out BW.out.size hbu26)
  clear hbu26 hu26
  go_wp2_with fail
  rw [Hu26.out]
  clear q22 q23 q24 q25
  clear Hu26
  refine (two_r 11 Hd.out RD_a0.out RD_a1.out RD_b0.out RD_b1.out I1.out I2.out).mono ?_
  rintro e v27 ⟨Ad, kd, A'd, k'd, rfl, r0, r1, hb⟩
  have RD_d0 := Aside0.mk r0
  have RD_d1 := Aside0.mk r1
  replace BX_a := Aside0.mk (blk_below BX_a.out hb)
  replace BX_b := Aside0.mk (blk_below BX_b.out hb)
  replace BX_s := Aside0.mk (blk_below BX_s.out hb)
  replace BX_t := Aside0.mk (blk_below BX_t.out hb)
  replace RD_a0 := Aside0.mk (RD_a0.out.below hb)
  replace RD_a1 := Aside0.mk (RD_a1.out.below hb)
  replace RD_b0 := Aside0.mk (RD_b0.out.below hb)
  replace RD_b1 := Aside0.mk (RD_b1.out.below hb)
  replace RD_s0 := Aside0.mk (RD_s0.out.below hb)
  replace RD_s1 := Aside0.mk (RD_s1.out.below hb)
  replace RD_o := Aside0.mk (RD_o.out.below hb)
  replace RD_t0 := Aside0.mk (RD_t0.out.below hb)
  replace RD_t1 := Aside0.mk (RD_t1.out.below hb)
  replace BW := Aside0.mk (below_then BW.out BW.out.size hb)
  clear hb r0 r1
  have q28 : (v27.alloc (Obj.cells #[.slice Ad sd.length kd, .slice A'd dd.length k'd] 24)).cell? ⟨w.heap.size, 0, none⟩ = some (.slice A0 a1.length c0) := (blk_cell (blk_below BX_a.out (below_fold v27 [Obj.cells #[.slice Ad sd.length kd, .slice A'd dd.length k'd] 24])) 0).trans rfl
  have q29 : (v27.alloc (Obj.cells #[.slice Ad sd.length kd, .slice A'd dd.length k'd] 24)).cell? ⟨w.heap.size, 1, none⟩ = some (.slice A1 a2.length c1) := (blk_cell (blk_below BX_a.out (below_fold v27 [Obj.cells #[.slice Ad sd.length kd, .slice A'd dd.length k'd] 24])) 1).trans rfl
  have q30 : (v27.alloc (Obj.cells #[.slice Ad sd.length kd, .slice A'd dd.length k'd] 24)).cell? ⟨w.heap.size + 1, 0, none⟩ = some (.slice A2 b1.length c2) := (blk_cell (blk_below BX_b.out (below_fold v27 [Obj.cells #[.slice Ad sd.length kd, .slice A'd dd.length k'd] 24])) 0).trans rfl
  have q31 : (v27.alloc (Obj.cells #[.slice Ad sd.length kd, .slice A'd dd.length k'd] 24)).cell? ⟨w.heap.size + 1, 1, none⟩ = some (.slice A3 b2.length c3) := (blk_cell (blk_below BX_b.out (below_fold v27 [Obj.cells #[.slice Ad sd.length kd, .slice A'd dd.length k'd] 24])) 1).trans rfl
  obtain ⟨u32, hu32⟩ : ∃ u, (v27.alloc (Obj.cells #[.slice Ad sd.length kd, .slice A'd dd.length k'd] 24)) = u := ⟨_, rfl⟩
  have hbu32 : Below v27.heap.size v27 u32 := by rw [← hu32]; exact below_fold v27 [Obj.cells #[.slice Ad sd.length kd, .slice A'd dd.length k'd] 24]
  have BX_d : Aside0 (u32.heap[v27.heap.size]? = some (.cells #[.slice Ad sd.length kd, .slice A'd dd.length k'd] 24 (0, 0))) := ⟨by rw [← hu32]; exact blk_fold v27 [Obj.cells #[.slice Ad sd.length kd, .slice A'd dd.length k'd] 24] 0 _ rfl⟩
  have Hu32 := Aside0.mk hu32
  replace BX_a := Aside0.mk (blk_below BX_a.out hbu32)
  replace BX_b := Aside0.mk (blk_below BX_b.out hbu32)
  replace BX_s := Aside0.mk (blk_below BX_s.out hbu32)
  replace BX_t := Aside0.mk (blk_below BX_t.out hbu32)
  replace RD_a0 := Aside0.mk (RD_a0.out.below hbu32)
  replace RD_a1 := Aside0.mk (RD_a1.out.below hbu32)
  replace RD_b0 := Aside0.mk (RD_b0.out.below hbu32)
  replace RD_b1 := Aside0.mk (RD_b1.out.below hbu32)
  replace RD_s0 := Aside0.mk (RD_s0.out.below hbu32)
  replace RD_s1 := Aside0.mk (RD_s1.out.below hbu32)
  replace RD_o := Aside0.mk (RD_o.out.below hbu32)
  replace RD_t0 := Aside0.mk (RD_t0.out.below hbu32)
  replace RD_t1 := Aside0.mk (RD_t1.out.below hbu32)
  replace RD_d0 := Aside0.mk (RD_d0.out.below hbu32)
  replace RD_d1 := Aside0.mk (RD_d1.out.below hbu32)
  replace BW := Aside0.mk (below_then BW.out BW.out.size hbu32)
  clear hbu32 hu32
  go_wp2_with fail
  rw [Hu32.out]
  clear q28 q29 q30 q31
  clear Hu32
  refine (two_r 11 Hc.out RD_b0.out RD_b1.out RD_a0.out RD_a1.out I2.out I1.out).mono ?_
  rintro e v33 ⟨Ac, kc, A'c, k'c, rfl, r0, r1, hb⟩
  have RD_c0 := Aside0.mk r0
  have RD_c1 := Aside0.mk r1
  replace BX_a := Aside0.mk (blk_below BX_a.out hb)
  replace BX_b := Aside0.mk (blk_below BX_b.out hb)
  replace BX_s := Aside0.mk (blk_below BX_s.out hb)
  replace BX_t := Aside0.mk (blk_below BX_t.out hb)
  replace BX_d := Aside0.mk (blk_below BX_d.out hb)
  replace RD_a0 := Aside0.mk (RD_a0.out.below hb)
  replace RD_a1 := Aside0.mk (RD_a1.out.below hb)
  replace RD_b0 := Aside0.mk (RD_b0.out.below hb)
  replace RD_b1 := Aside0.mk (RD_b1.out.below hb)
  replace RD_s0 := Aside0.mk (RD_s0.out.below hb)
  replace RD_s1 := Aside0.mk (RD_s1.out.below hb)
  replace RD_o := Aside0.mk (RD_o.out.below hb)
  replace RD_t0 := Aside0.mk (RD_t0.out.below hb)
  replace RD_t1 := Aside0.mk (RD_t1.out.below hb)
  replace RD_d0 := Aside0.mk (RD_d0.out.below hb)
  replace RD_d1 := Aside0.mk (RD_d1.out.below hb)
  replace BW := Aside0.mk (below_then BW.out BW.out.size hb)
  clear hb r0 r1
  have q34 : (v33.alloc (Obj.cells #[.slice Ac sc.length kc, .slice A'c dc.length k'c] 24)).cell? ⟨v33.heap.size, 0, none⟩ = some (.slice Ac sc.length kc) := (blk_cell (blk_fold v33 [Obj.cells #[.slice Ac sc.length kc, .slice A'c dc.length k'c] 24] 0 _ rfl) 0).trans rfl
  have q35 : (v33.alloc (Obj.cells #[.slice Ac sc.length kc, .slice A'c dc.length k'c] 24)).cell? ⟨v33.heap.size, 1, none⟩ = some (.slice A'c dc.length k'c) := (blk_cell (blk_fold v33 [Obj.cells #[.slice Ac sc.length kc, .slice A'c dc.length k'c] 24] 0 _ rfl) 1).trans rfl
  obtain ⟨u36, hu36⟩ : ∃ u, (v33.alloc (Obj.cells #[.slice Ac sc.length kc, .slice A'c dc.length k'c] 24)) = u := ⟨_, rfl⟩
  have hbu36 : Below v33.heap.size v33 u36 := by rw [← hu36]; exact below_fold v33 [Obj.cells #[.slice Ac sc.length kc, .slice A'c dc.length k'c] 24]
  have BX_c : Aside0 (u36.heap[v33.heap.size]? = some (.cells #[.slice Ac sc.length kc, .slice A'c dc.length k'c] 24 (0, 0))) := ⟨by rw [← hu36]; exact blk_fold v33 [Obj.cells #[.slice Ac sc.length kc, .slice A'c dc.length k'c] 24] 0 _ rfl⟩
  have Hu36 := Aside0.mk hu36
  replace BX_a := Aside0.mk (blk_below BX_a.out hbu36)
  replace BX_b := Aside0.mk (blk_below BX_b.out hbu36)
  replace BX_s := Aside0.mk (blk_below BX_s.out hbu36)
  replace BX_t := Aside0.mk (blk_below BX_t.out hbu36)
  replace BX_d := Aside0.mk (blk_below BX_d.out hbu36)
  replace RD_a0 := Aside0.mk (RD_a0.out.below hbu36)
  replace RD_a1 := Aside0.mk (RD_a1.out.below hbu36)
  replace RD_b0 := Aside0.mk (RD_b0.out.below hbu36)
  replace RD_b1 := Aside0.mk (RD_b1.out.below hbu36)
  replace RD_s0 := Aside0.mk (RD_s0.out.below hbu36)
  replace RD_s1 := Aside0.mk (RD_s1.out.below hbu36)
  replace RD_o := Aside0.mk (RD_o.out.below hbu36)
  replace RD_t0 := Aside0.mk (RD_t0.out.below hbu36)
  replace RD_t1 := Aside0.mk (RD_t1.out.below hbu36)
  replace RD_d0 := Aside0.mk (RD_d0.out.below hbu36)
  replace RD_d1 := Aside0.mk (RD_d1.out.below hbu36)
  replace RD_c0 := Aside0.mk (RD_c0.out.below hbu36)
  replace RD_c1 := Aside0.mk (RD_c1.out.below hbu36)
  replace BW := Aside0.mk (below_then BW.out BW.out.size hbu36)
  clear hbu36 hu36
  go_wp2_with fail
  rw [Hu36.out]
  clear q34 q35
  clear Hu36
  refine (one_r 20 Hn.out RD_c0.out RD_c1.out IC.out).mono ?_
  rintro e v37 ⟨An, kn, A'n, k'n, rfl, r0, r1, hb⟩
  have RD_n0 := Aside0.mk r0
  have RD_n1 := Aside0.mk r1
  replace BX_a := Aside0.mk (blk_below BX_a.out hb)
  replace BX_b := Aside0.mk (blk_below BX_b.out hb)
  replace BX_s := Aside0.mk (blk_below BX_s.out hb)
  replace BX_t := Aside0.mk (blk_below BX_t.out hb)
  replace BX_d := Aside0.mk (blk_below BX_d.out hb)
  replace BX_c := Aside0.mk (blk_below BX_c.out hb)
  replace RD_a0 := Aside0.mk (RD_a0.out.below hb)
  replace RD_a1 := Aside0.mk (RD_a1.out.below hb)
  replace RD_b0 := Aside0.mk (RD_b0.out.below hb)
  replace RD_b1 := Aside0.mk (RD_b1.out.below hb)
  replace RD_s0 := Aside0.mk (RD_s0.out.below hb)
  replace RD_s1 := Aside0.mk (RD_s1.out.below hb)
  replace RD_o := Aside0.mk (RD_o.out.below hb)
  replace RD_t0 := Aside0.mk (RD_t0.out.below hb)
  replace RD_t1 := Aside0.mk (RD_t1.out.below hb)
  replace RD_d0 := Aside0.mk (RD_d0.out.below hb)
  replace RD_d1 := Aside0.mk (RD_d1.out.below hb)
  replace RD_c0 := Aside0.mk (RD_c0.out.below hb)
  replace RD_c1 := Aside0.mk (RD_c1.out.below hb)
  replace BW := Aside0.mk (below_then BW.out BW.out.size hb)
  clear hb r0 r1
  have q38 : (v37.alloc (Obj.cells #[.slice An sn.length kn, .slice A'n dn.length k'n] 24)).cell? ⟨w.heap.size, 0, none⟩ = some (.slice A0 a1.length c0) := (blk_cell (blk_below BX_a.out (below_fold v37 [Obj.cells #[.slice An sn.length kn, .slice A'n dn.length k'n] 24])) 0).trans rfl
  have q39 : (v37.alloc (Obj.cells #[.slice An sn.length kn, .slice A'n dn.length k'n] 24)).cell? ⟨w.heap.size, 1, none⟩ = some (.slice A1 a2.length c1) := (blk_cell (blk_below BX_a.out (below_fold v37 [Obj.cells #[.slice An sn.length kn, .slice A'n dn.length k'n] 24])) 1).trans rfl
  obtain ⟨u40, hu40⟩ : ∃ u, (v37.alloc (Obj.cells #[.slice An sn.length kn, .slice A'n dn.length k'n] 24)) = u := ⟨_, rfl⟩
  have hbu40 : Below v37.heap.size v37 u40 := by rw [← hu40]; exact below_fold v37 [Obj.cells #[.slice An sn.length kn, .slice A'n dn.length k'n] 24]
  have BX_n : Aside0 (u40.heap[v37.heap.size]? = some (.cells #[.slice An sn.length kn, .slice A'n dn.length k'n] 24 (0, 0))) := ⟨by rw [← hu40]; exact blk_fold v37 [Obj.cells #[.slice An sn.length kn, .slice A'n dn.length k'n] 24] 0 _ rfl⟩
  have Hu40 := Aside0.mk hu40
  replace BX_a := Aside0.mk (blk_below BX_a.out hbu40)
  replace BX_b := Aside0.mk (blk_below BX_b.out hbu40)
  replace BX_s := Aside0.mk (blk_below BX_s.out hbu40)
  replace BX_t := Aside0.mk (blk_below BX_t.out hbu40)
  replace BX_d := Aside0.mk (blk_below BX_d.out hbu40)
  replace BX_c := Aside0.mk (blk_below BX_c.out hbu40)
  replace RD_a0 := Aside0.mk (RD_a0.out.below hbu40)
  replace RD_a1 := Aside0.mk (RD_a1.out.below hbu40)
  replace RD_b0 := Aside0.mk (RD_b0.out.below hbu40)
  replace RD_b1 := Aside0.mk (RD_b1.out.below hbu40)
  replace RD_s0 := Aside0.mk (RD_s0.out.below hbu40)
  replace RD_s1 := Aside0.mk (RD_s1.out.below hbu40)
  replace RD_o := Aside0.mk (RD_o.out.below hbu40)
  replace RD_t0 := Aside0.mk (RD_t0.out.below hbu40)
  replace RD_t1 := Aside0.mk (RD_t1.out.below hbu40)
  replace RD_d0 := Aside0.mk (RD_d0.out.below hbu40)
  replace RD_d1 := Aside0.mk (RD_d1.out.below hbu40)
  replace RD_c0 := Aside0.mk (RD_c0.out.below hbu40)
  replace RD_c1 := Aside0.mk (RD_c1.out.below hbu40)
  replace RD_n0 := Aside0.mk (RD_n0.out.below hbu40)
  replace RD_n1 := Aside0.mk (RD_n1.out.below hbu40)
  replace BW := Aside0.mk (below_then BW.out BW.out.size hbu40)
  clear hbu40 hu40
  go_wp2_with fail
  rw [Hu40.out]
  clear q38 q39
  clear Hu40
  refine (one_r 23 Hr.out RD_a0.out RD_a1.out I1.out).mono ?_
  rintro e v41 ⟨Ar, kr, A'r, k'r, rfl, r0, r1, hb⟩
  have RD_r0 := Aside0.mk r0
  have RD_r1 := Aside0.mk r1
  replace BX_a := Aside0.mk (blk_below BX_a.out hb)
  replace BX_b := Aside0.mk (blk_below BX_b.out hb)
  replace BX_s := Aside0.mk (blk_below BX_s.out hb)
  replace BX_t := Aside0.mk (blk_below BX_t.out hb)
  replace BX_d := Aside0.mk (blk_below BX_d.out hb)
  replace BX_c := Aside0.mk (blk_below BX_c.out hb)
  replace BX_n := Aside0.mk (blk_below BX_n.out hb)
  replace RD_a0 := Aside0.mk (RD_a0.out.below hb)
  replace RD_a1 := Aside0.mk (RD_a1.out.below hb)
  replace RD_b0 := Aside0.mk (RD_b0.out.below hb)
  replace RD_b1 := Aside0.mk (RD_b1.out.below hb)
  replace RD_s0 := Aside0.mk (RD_s0.out.below hb)
  replace RD_s1 := Aside0.mk (RD_s1.out.below hb)
  replace RD_o := Aside0.mk (RD_o.out.below hb)
  replace RD_t0 := Aside0.mk (RD_t0.out.below hb)
  replace RD_t1 := Aside0.mk (RD_t1.out.below hb)
  replace RD_d0 := Aside0.mk (RD_d0.out.below hb)
  replace RD_d1 := Aside0.mk (RD_d1.out.below hb)
  replace RD_c0 := Aside0.mk (RD_c0.out.below hb)
  replace RD_c1 := Aside0.mk (RD_c1.out.below hb)
  replace RD_n0 := Aside0.mk (RD_n0.out.below hb)
  replace RD_n1 := Aside0.mk (RD_n1.out.below hb)
  replace BW := Aside0.mk (below_then BW.out BW.out.size hb)
  clear hb r0 r1
  have q42 : (v41.alloc (Obj.cells #[.slice Ar sr.length kr, .slice A'r dr.length k'r] 24)).cell? ⟨v41.heap.size, 0, none⟩ = some (.slice Ar sr.length kr) := (blk_cell (blk_fold v41 [Obj.cells #[.slice Ar sr.length kr, .slice A'r dr.length k'r] 24] 0 _ rfl) 0).trans rfl
  have q43 : (v41.alloc (Obj.cells #[.slice Ar sr.length kr, .slice A'r dr.length k'r] 24)).cell? ⟨v41.heap.size, 1, none⟩ = some (.slice A'r dr.length k'r) := (blk_cell (blk_fold v41 [Obj.cells #[.slice Ar sr.length kr, .slice A'r dr.length k'r] 24] 0 _ rfl) 1).trans rfl
  obtain ⟨u44, hu44⟩ : ∃ u, (v41.alloc (Obj.cells #[.slice Ar sr.length kr, .slice A'r dr.length k'r] 24)) = u := ⟨_, rfl⟩
  have hbu44 : Below v41.heap.size v41 u44 := by rw [← hu44]; exact below_fold v41 [Obj.cells #[.slice Ar sr.length kr, .slice A'r dr.length k'r] 24]
  have BX_r : Aside0 (u44.heap[v41.heap.size]? = some (.cells #[.slice Ar sr.length kr, .slice A'r dr.length k'r] 24 (0, 0))) := ⟨by rw [← hu44]; exact blk_fold v41 [Obj.cells #[.slice Ar sr.length kr, .slice A'r dr.length k'r] 24] 0 _ rfl⟩
  have Hu44 := Aside0.mk hu44
  replace BX_a := Aside0.mk (blk_below BX_a.out hbu44)
  replace BX_b := Aside0.mk (blk_below BX_b.out hbu44)
  replace BX_s := Aside0.mk (blk_below BX_s.out hbu44)
  replace BX_t := Aside0.mk (blk_below BX_t.out hbu44)
  replace BX_d := Aside0.mk (blk_below BX_d.out hbu44)
  replace BX_c := Aside0.mk (blk_below BX_c.out hbu44)
  replace BX_n := Aside0.mk (blk_below BX_n.out hbu44)
  replace RD_a0 := Aside0.mk (RD_a0.out.below hbu44)
  replace RD_a1 := Aside0.mk (RD_a1.out.below hbu44)
  replace RD_b0 := Aside0.mk (RD_b0.out.below hbu44)
  replace RD_b1 := Aside0.mk (RD_b1.out.below hbu44)
  replace RD_s0 := Aside0.mk (RD_s0.out.below hbu44)
  replace RD_s1 := Aside0.mk (RD_s1.out.below hbu44)
  replace RD_o := Aside0.mk (RD_o.out.below hbu44)
  replace RD_t0 := Aside0.mk (RD_t0.out.below hbu44)
  replace RD_t1 := Aside0.mk (RD_t1.out.below hbu44)
  replace RD_d0 := Aside0.mk (RD_d0.out.below hbu44)
  replace RD_d1 := Aside0.mk (RD_d1.out.below hbu44)
  replace RD_c0 := Aside0.mk (RD_c0.out.below hbu44)
  replace RD_c1 := Aside0.mk (RD_c1.out.below hbu44)
  replace RD_n0 := Aside0.mk (RD_n0.out.below hbu44)
  replace RD_n1 := Aside0.mk (RD_n1.out.below hbu44)
  replace RD_r0 := Aside0.mk (RD_r0.out.below hbu44)
  replace RD_r1 := Aside0.mk (RD_r1.out.below hbu44)
  replace BW := Aside0.mk (below_then BW.out BW.out.size hbu44)
  clear hbu44 hu44
  go_wp2_with fail
  rw [Hu44.out]
  clear q42 q43
  clear Hu44
  refine (two_r 12 Hq.out RD_r0.out RD_r1.out RD_r0.out RD_r1.out IR.out IR.out).mono ?_
  rintro e v45 ⟨Aq, kq, A'q, k'q, rfl, r0, r1, hb⟩
  have RD_q0 := Aside0.mk r0
  have RD_q1 := Aside0.mk r1
  replace BX_a := Aside0.mk (blk_below BX_a.out hb)
  replace BX_b := Aside0.mk (blk_below BX_b.out hb)
  replace BX_s := Aside0.mk (blk_below BX_s.out hb)
  replace BX_t := Aside0.mk (blk_below BX_t.out hb)
  replace BX_d := Aside0.mk (blk_below BX_d.out hb)
  replace BX_c := Aside0.mk (blk_below BX_c.out hb)
  replace BX_n := Aside0.mk (blk_below BX_n.out hb)
  replace BX_r := Aside0.mk (blk_below BX_r.out hb)
  replace RD_a0 := Aside0.mk (RD_a0.out.below hb)
  replace RD_a1 := Aside0.mk (RD_a1.out.below hb)
  replace RD_b0 := Aside0.mk (RD_b0.out.below hb)
  replace RD_b1 := Aside0.mk (RD_b1.out.below hb)
  replace RD_s0 := Aside0.mk (RD_s0.out.below hb)
  replace RD_s1 := Aside0.mk (RD_s1.out.below hb)
  replace RD_o := Aside0.mk (RD_o.out.below hb)
  replace RD_t0 := Aside0.mk (RD_t0.out.below hb)
  replace RD_t1 := Aside0.mk (RD_t1.out.below hb)
  replace RD_d0 := Aside0.mk (RD_d0.out.below hb)
  replace RD_d1 := Aside0.mk (RD_d1.out.below hb)
  replace RD_c0 := Aside0.mk (RD_c0.out.below hb)
  replace RD_c1 := Aside0.mk (RD_c1.out.below hb)
  replace RD_n0 := Aside0.mk (RD_n0.out.below hb)
  replace RD_n1 := Aside0.mk (RD_n1.out.below hb)
  replace RD_r0 := Aside0.mk (RD_r0.out.below hb)
  replace RD_r1 := Aside0.mk (RD_r1.out.below hb)
  replace BW := Aside0.mk (below_then BW.out BW.out.size hb)
  clear hb r0 r1
  obtain ⟨u46, hu46⟩ : ∃ u, (v45.alloc (Obj.cells #[.slice Aq sq.length kq, .slice A'q dq.length k'q] 24)) = u := ⟨_, rfl⟩
  have hbu46 : Below v45.heap.size v45 u46 := by rw [← hu46]; exact below_fold v45 [Obj.cells #[.slice Aq sq.length kq, .slice A'q dq.length k'q] 24]
  have BX_q : Aside0 (u46.heap[v45.heap.size]? = some (.cells #[.slice Aq sq.length kq, .slice A'q dq.length k'q] 24 (0, 0))) := ⟨by rw [← hu46]; exact blk_fold v45 [Obj.cells #[.slice Aq sq.length kq, .slice A'q dq.length k'q] 24] 0 _ rfl⟩
  have Hu46 := Aside0.mk hu46
  replace BX_a := Aside0.mk (blk_below BX_a.out hbu46)
  replace BX_b := Aside0.mk (blk_below BX_b.out hbu46)
  replace BX_s := Aside0.mk (blk_below BX_s.out hbu46)
  replace BX_t := Aside0.mk (blk_below BX_t.out hbu46)
  replace BX_d := Aside0.mk (blk_below BX_d.out hbu46)
  replace BX_c := Aside0.mk (blk_below BX_c.out hbu46)
  replace BX_n := Aside0.mk (blk_below BX_n.out hbu46)
  replace BX_r := Aside0.mk (blk_below BX_r.out hbu46)
  replace RD_a0 := Aside0.mk (RD_a0.out.below hbu46)
  replace RD_a1 := Aside0.mk (RD_a1.out.below hbu46)
  replace RD_b0 := Aside0.mk (RD_b0.out.below hbu46)
  replace RD_b1 := Aside0.mk (RD_b1.out.below hbu46)
  replace RD_s0 := Aside0.mk (RD_s0.out.below hbu46)
  replace RD_s1 := Aside0.mk (RD_s1.out.below hbu46)
  replace RD_o := Aside0.mk (RD_o.out.below hbu46)
  replace RD_t0 := Aside0.mk (RD_t0.out.below hbu46)
  replace RD_t1 := Aside0.mk (RD_t1.out.below hbu46)
  replace RD_d0 := Aside0.mk (RD_d0.out.below hbu46)
  replace RD_d1 := Aside0.mk (RD_d1.out.below hbu46)
  replace RD_c0 := Aside0.mk (RD_c0.out.below hbu46)
  replace RD_c1 := Aside0.mk (RD_c1.out.below hbu46)
  replace RD_n0 := Aside0.mk (RD_n0.out.below hbu46)
  replace RD_n1 := Aside0.mk (RD_n1.out.below hbu46)
  replace RD_r0 := Aside0.mk (RD_r0.out.below hbu46)
  replace RD_r1 := Aside0.mk (RD_r1.out.below hbu46)
  replace RD_q0 := Aside0.mk (RD_q0.out.below hbu46)
  replace RD_q1 := Aside0.mk (RD_q1.out.below hbu46)
  replace BW := Aside0.mk (below_then BW.out BW.out.size hbu46)
  clear hbu46 hu46
  go_wp2_with fail
  rw [Hu46.out]
  clear Hu46
  go_loopg [20] (a2.length) (fun g i wr => ∃ k : Nat, i = .int .i64 k ∧ Aside0 (Below u46.heap.size u46 wr) ∧ Aside0 (k ≤ a2.length ∧ g = a2.length - k))
  case atStart => exact ⟨0, rfl, ⟨Below.refl _ _⟩, ⟨by omega, by omega⟩⟩
  case round =>
    obtain ⟨k, rfl, hbx, HA⟩ := hrel
    obtain ⟨hk, hg⟩ := HA.out
    obtain ⟨v99, rfl⟩ : ∃ v99, v99 = wr := ⟨_, rfl⟩
    have hb := hbx.out
    replace BX_a := Aside0.mk (blk_below BX_a.out hb)
    replace BX_b := Aside0.mk (blk_below BX_b.out hb)
    replace BX_s := Aside0.mk (blk_below BX_s.out hb)
    replace BX_t := Aside0.mk (blk_below BX_t.out hb)
    replace BX_d := Aside0.mk (blk_below BX_d.out hb)
    replace BX_c := Aside0.mk (blk_below BX_c.out hb)
    replace BX_n := Aside0.mk (blk_below BX_n.out hb)
    replace BX_r := Aside0.mk (blk_below BX_r.out hb)
    replace BX_q := Aside0.mk (blk_below BX_q.out hb)
    replace RD_a0 := Aside0.mk (RD_a0.out.below hb)
    replace RD_a1 := Aside0.mk (RD_a1.out.below hb)
    replace RD_b0 := Aside0.mk (RD_b0.out.below hb)
    replace RD_b1 := Aside0.mk (RD_b1.out.below hb)
    replace RD_s0 := Aside0.mk (RD_s0.out.below hb)
    replace RD_s1 := Aside0.mk (RD_s1.out.below hb)
    replace RD_o := Aside0.mk (RD_o.out.below hb)
    replace RD_t0 := Aside0.mk (RD_t0.out.below hb)
    replace RD_t1 := Aside0.mk (RD_t1.out.below hb)
    replace RD_d0 := Aside0.mk (RD_d0.out.below hb)
    replace RD_d1 := Aside0.mk (RD_d1.out.below hb)
    replace RD_c0 := Aside0.mk (RD_c0.out.below hb)
    replace RD_c1 := Aside0.mk (RD_c1.out.below hb)
    replace RD_n0 := Aside0.mk (RD_n0.out.below hb)
    replace RD_n1 := Aside0.mk (RD_n1.out.below hb)
    replace RD_r0 := Aside0.mk (RD_r0.out.below hb)
    replace RD_r1 := Aside0.mk (RD_r1.out.below hb)
    replace RD_q0 := Aside0.mk (RD_q0.out.below hb)
    replace RD_q1 := Aside0.mk (RD_q1.out.below hb)
    replace BW := Aside0.mk (below_then BW.out BW.out.size hb)
    clear hb HA
    have l64 := L64.out
    by_cases hlt : k < a2.length
    case pos =>
      have cc1 : decide ((k : Int) < (a2.length : Int)) = true := by simpa using hlt
      have cc2 : decide (k < a2.length) = true := by simpa using hlt
      have qq_a1 : v99.cell? ⟨w.heap.size, 1, none⟩ = some (.slice A1 a2.length c1) := (blk_cell BX_a.out 1).trans rfl
      clear hk hg l64
      clear hlt
      by_cases hd : ed = 0
      case neg =>
        have zd : (ed != 0) = true := by simpa using hd
        clear hd
        have q47 : v99.cell? ⟨v17.heap.size, 0, none⟩ = some (.slice As ss.length ks) := (blk_cell BX_s.out 0).trans rfl
        have q48 : v99.cell? ⟨v17.heap.size, 1, none⟩ = some (.slice A's ds.length k's) := (blk_cell BX_s.out 1).trans rfl
        have q49 : v99.cell? ⟨v21.heap.size, 0, none⟩ = some (.slice At st.length kt) := (blk_cell BX_t.out 0).trans rfl
        have q50 : v99.cell? ⟨v21.heap.size, 1, none⟩ = some (.slice A't dt.length k't) := (blk_cell BX_t.out 1).trans rfl
        go_wp2_with fail
        clear q47 q48 q49 q50
        refine (same_r (b := true) E2.out RD_s0.out RD_s1.out RD_t0.out RD_t1.out).mono ?_
        rintro e v51 ⟨rfl, hb⟩
        replace BX_a := Aside0.mk (blk_below BX_a.out hb)
        replace BX_b := Aside0.mk (blk_below BX_b.out hb)
        replace BX_s := Aside0.mk (blk_below BX_s.out hb)
        replace BX_t := Aside0.mk (blk_below BX_t.out hb)
        replace BX_d := Aside0.mk (blk_below BX_d.out hb)
        replace BX_c := Aside0.mk (blk_below BX_c.out hb)
        replace BX_n := Aside0.mk (blk_below BX_n.out hb)
        replace BX_r := Aside0.mk (blk_below BX_r.out hb)
        replace BX_q := Aside0.mk (blk_below BX_q.out hb)
        replace RD_a0 := Aside0.mk (RD_a0.out.below hb)
        replace RD_a1 := Aside0.mk (RD_a1.out.below hb)
        replace RD_b0 := Aside0.mk (RD_b0.out.below hb)
        replace RD_b1 := Aside0.mk (RD_b1.out.below hb)
        replace RD_s0 := Aside0.mk (RD_s0.out.below hb)
        replace RD_s1 := Aside0.mk (RD_s1.out.below hb)
        replace RD_o := Aside0.mk (RD_o.out.below hb)
        replace RD_t0 := Aside0.mk (RD_t0.out.below hb)
        replace RD_t1 := Aside0.mk (RD_t1.out.below hb)
        replace RD_d0 := Aside0.mk (RD_d0.out.below hb)
        replace RD_d1 := Aside0.mk (RD_d1.out.below hb)
        replace RD_c0 := Aside0.mk (RD_c0.out.below hb)
        replace RD_c1 := Aside0.mk (RD_c1.out.below hb)
        replace RD_n0 := Aside0.mk (RD_n0.out.below hb)
        replace RD_n1 := Aside0.mk (RD_n1.out.below hb)
        replace RD_r0 := Aside0.mk (RD_r0.out.below hb)
        replace RD_r1 := Aside0.mk (RD_r1.out.below hb)
        replace RD_q0 := Aside0.mk (RD_q0.out.below hb)
        replace RD_q1 := Aside0.mk (RD_q1.out.below hb)
        replace BW := Aside0.mk (below_then BW.out BW.out.size hb)
        clear hb
        go_wp2_with fail
        go_ret
        exact ⟨rfl, BW.out⟩
      case pos =>
        by_cases hc : ec = 0
        case neg =>
          have zd : (ed != 0) = false := by simpa using hd
          have zc : (ec != 0) = true := by simpa using hc
          clear hd hc
          have q47 : v99.cell? ⟨v17.heap.size, 0, none⟩ = some (.slice As ss.length ks) := (blk_cell BX_s.out 0).trans rfl
          have q48 : v99.cell? ⟨v17.heap.size, 1, none⟩ = some (.slice A's ds.length k's) := (blk_cell BX_s.out 1).trans rfl
          have q49 : v99.cell? ⟨v21.heap.size, 0, none⟩ = some (.slice At st.length kt) := (blk_cell BX_t.out 0).trans rfl
          have q50 : v99.cell? ⟨v21.heap.size, 1, none⟩ = some (.slice A't dt.length k't) := (blk_cell BX_t.out 1).trans rfl
          go_wp2_with fail
          clear q47 q48 q49 q50
          refine (same_r (b := true) E2.out RD_s0.out RD_s1.out RD_t0.out RD_t1.out).mono ?_
          rintro e v51 ⟨rfl, hb⟩
          replace BX_a := Aside0.mk (blk_below BX_a.out hb)
          replace BX_b := Aside0.mk (blk_below BX_b.out hb)
          replace BX_s := Aside0.mk (blk_below BX_s.out hb)
          replace BX_t := Aside0.mk (blk_below BX_t.out hb)
          replace BX_d := Aside0.mk (blk_below BX_d.out hb)
          replace BX_c := Aside0.mk (blk_below BX_c.out hb)
          replace BX_n := Aside0.mk (blk_below BX_n.out hb)
          replace BX_r := Aside0.mk (blk_below BX_r.out hb)
          replace BX_q := Aside0.mk (blk_below BX_q.out hb)
          replace RD_a0 := Aside0.mk (RD_a0.out.below hb)
          replace RD_a1 := Aside0.mk (RD_a1.out.below hb)
          replace RD_b0 := Aside0.mk (RD_b0.out.below hb)
          replace RD_b1 := Aside0.mk (RD_b1.out.below hb)
          replace RD_s0 := Aside0.mk (RD_s0.out.below hb)
          replace RD_s1 := Aside0.mk (RD_s1.out.below hb)
          replace RD_o := Aside0.mk (RD_o.out.below hb)
          replace RD_t0 := Aside0.mk (RD_t0.out.below hb)
          replace RD_t1 := Aside0.mk (RD_t1.out.below hb)
          replace RD_d0 := Aside0.mk (RD_d0.out.below hb)
          replace RD_d1 := Aside0.mk (RD_d1.out.below hb)
          replace RD_c0 := Aside0.mk (RD_c0.out.below hb)
          replace RD_c1 := Aside0.mk (RD_c1.out.below hb)
          replace RD_n0 := Aside0.mk (RD_n0.out.below hb)
          replace RD_n1 := Aside0.mk (RD_n1.out.below hb)
          replace RD_r0 := Aside0.mk (RD_r0.out.below hb)
          replace RD_r1 := Aside0.mk (RD_r1.out.below hb)
          replace RD_q0 := Aside0.mk (RD_q0.out.below hb)
          replace RD_q1 := Aside0.mk (RD_q1.out.below hb)
          replace BW := Aside0.mk (below_then BW.out BW.out.size hb)
          clear hb
          go_wp2_with fail
          go_ret
          exact ⟨rfl, BW.out⟩
        case pos =>
          have zd : (ed != 0) = false := by simpa using hd
          have zc : (ec != 0) = false := by simpa using hc
          have zn : (en == 0) = true := by simpa using (E3.out hd hc).1
          have E3b := Aside0.mk (E3.out hd hc).2
          clear hd hc
          have q47 : v99.cell? ⟨v17.heap.size, 0, none⟩ = some (.slice As ss.length ks) := (blk_cell BX_s.out 0).trans rfl
          have q48 : v99.cell? ⟨v17.heap.size, 1, none⟩ = some (.slice A's ds.length k's) := (blk_cell BX_s.out 1).trans rfl
          have q49 : v99.cell? ⟨v21.heap.size, 0, none⟩ = some (.slice At st.length kt) := (blk_cell BX_t.out 0).trans rfl
          have q50 : v99.cell? ⟨v21.heap.size, 1, none⟩ = some (.slice A't dt.length k't) := (blk_cell BX_t.out 1).trans rfl
          go_wp2_with fail
          clear q47 q48 q49 q50
          refine (same_r (b := true) E2.out RD_s0.out RD_s1.out RD_t0.out RD_t1.out).mono ?_
          rintro e v51 ⟨rfl, hb⟩
          replace BX_a := Aside0.mk (blk_below BX_a.out hb)
          replace BX_b := Aside0.mk (blk_below BX_b.out hb)
          replace BX_s := Aside0.mk (blk_below BX_s.out hb)
          replace BX_t := Aside0.mk (blk_below BX_t.out hb)
          replace BX_d := Aside0.mk (blk_below BX_d.out hb)
          replace BX_c := Aside0.mk (blk_below BX_c.out hb)
          replace BX_n := Aside0.mk (blk_below BX_n.out hb)
          replace BX_r := Aside0.mk (blk_below BX_r.out hb)
          replace BX_q := Aside0.mk (blk_below BX_q.out hb)
          replace RD_a0 := Aside0.mk (RD_a0.out.below hb)
          replace RD_a1 := Aside0.mk (RD_a1.out.below hb)
          replace RD_b0 := Aside0.mk (RD_b0.out.below hb)
          replace RD_b1 := Aside0.mk (RD_b1.out.below hb)
          replace RD_s0 := Aside0.mk (RD_s0.out.below hb)
          replace RD_s1 := Aside0.mk (RD_s1.out.below hb)
          replace RD_o := Aside0.mk (RD_o.out.below hb)
          replace RD_t0 := Aside0.mk (RD_t0.out.below hb)
          replace RD_t1 := Aside0.mk (RD_t1.out.below hb)
          replace RD_d0 := Aside0.mk (RD_d0.out.below hb)
          replace RD_d1 := Aside0.mk (RD_d1.out.below hb)
          replace RD_c0 := Aside0.mk (RD_c0.out.below hb)
          replace RD_c1 := Aside0.mk (RD_c1.out.below hb)
          replace RD_n0 := Aside0.mk (RD_n0.out.below hb)
          replace RD_n1 := Aside0.mk (RD_n1.out.below hb)
          replace RD_r0 := Aside0.mk (RD_r0.out.below hb)
          replace RD_r1 := Aside0.mk (RD_r1.out.below hb)
          replace RD_q0 := Aside0.mk (RD_q0.out.below hb)
          replace RD_q1 := Aside0.mk (RD_q1.out.below hb)
          replace BW := Aside0.mk (below_then BW.out BW.out.size hb)
          clear hb
          have q52 : v51.cell? ⟨v27.heap.size, 0, none⟩ = some (.slice Ad sd.length kd) := (blk_cell BX_d.out 0).trans rfl
          have q53 : v51.cell? ⟨v27.heap.size, 1, none⟩ = some (.slice A'd dd.length k'd) := (blk_cell BX_d.out 1).trans rfl
          have q54 : v51.cell? ⟨v37.heap.size, 0, none⟩ = some (.slice An sn.length kn) := (blk_cell BX_n.out 0).trans rfl
          have q55 : v51.cell? ⟨v37.heap.size, 1, none⟩ = some (.slice A'n dn.length k'n) := (blk_cell BX_n.out 1).trans rfl
          go_wp2_with fail
          clear q52 q53 q54 q55
          refine (same_r (b := true) E3b.out RD_d0.out RD_d1.out RD_n0.out RD_n1.out).mono ?_
          rintro e v56 ⟨rfl, hb⟩
          replace BX_a := Aside0.mk (blk_below BX_a.out hb)
          replace BX_b := Aside0.mk (blk_below BX_b.out hb)
          replace BX_s := Aside0.mk (blk_below BX_s.out hb)
          replace BX_t := Aside0.mk (blk_below BX_t.out hb)
          replace BX_d := Aside0.mk (blk_below BX_d.out hb)
          replace BX_c := Aside0.mk (blk_below BX_c.out hb)
          replace BX_n := Aside0.mk (blk_below BX_n.out hb)
          replace BX_r := Aside0.mk (blk_below BX_r.out hb)
          replace BX_q := Aside0.mk (blk_below BX_q.out hb)
          replace RD_a0 := Aside0.mk (RD_a0.out.below hb)
          replace RD_a1 := Aside0.mk (RD_a1.out.below hb)
          replace RD_b0 := Aside0.mk (RD_b0.out.below hb)
          replace RD_b1 := Aside0.mk (RD_b1.out.below hb)
          replace RD_s0 := Aside0.mk (RD_s0.out.below hb)
          replace RD_s1 := Aside0.mk (RD_s1.out.below hb)
          replace RD_o := Aside0.mk (RD_o.out.below hb)
          replace RD_t0 := Aside0.mk (RD_t0.out.below hb)
          replace RD_t1 := Aside0.mk (RD_t1.out.below hb)
          replace RD_d0 := Aside0.mk (RD_d0.out.below hb)
          replace RD_d1 := Aside0.mk (RD_d1.out.below hb)
          replace RD_c0 := Aside0.mk (RD_c0.out.below hb)
          replace RD_c1 := Aside0.mk (RD_c1.out.below hb)
          replace RD_n0 := Aside0.mk (RD_n0.out.below hb)
          replace RD_n1 := Aside0.mk (RD_n1.out.below hb)
          replace RD_r0 := Aside0.mk (RD_r0.out.below hb)
          replace RD_r1 := Aside0.mk (RD_r1.out.below hb)
          replace RD_q0 := Aside0.mk (RD_q0.out.below hb)
          replace RD_q1 := Aside0.mk (RD_q1.out.below hb)
          replace BW := Aside0.mk (below_then BW.out BW.out.size hb)
          clear hb
          go_wp2_with fail
          go_ret
          exact ⟨rfl, BW.out⟩
    case neg =>
      have cc1 : decide ((k : Int) < (a2.length : Int)) = false := by simpa using hlt
      have cc2 : decide (k < a2.length) = false := by simpa using hlt
      have qq_a1 : v99.cell? ⟨w.heap.size, 1, none⟩ = some (.slice A1 a2.length c1) := (blk_cell BX_a.out 1).trans rfl
      clear hk hg hlt l64
      by_cases hd : ed = 0
      case neg =>
        have zd : (ed != 0) = true := by simpa using hd
        clear hd
        have q47 : v99.cell? ⟨v17.heap.size, 0, none⟩ = some (.slice As ss.length ks) := (blk_cell BX_s.out 0).trans rfl
        have q48 : v99.cell? ⟨v17.heap.size, 1, none⟩ = some (.slice A's ds.length k's) := (blk_cell BX_s.out 1).trans rfl
        have q49 : v99.cell? ⟨v21.heap.size, 0, none⟩ = some (.slice At st.length kt) := (blk_cell BX_t.out 0).trans rfl
        have q50 : v99.cell? ⟨v21.heap.size, 1, none⟩ = some (.slice A't dt.length k't) := (blk_cell BX_t.out 1).trans rfl
        go_wp2_with fail
        clear q47 q48 q49 q50
        refine (same_r (b := true) E2.out RD_s0.out RD_s1.out RD_t0.out RD_t1.out).mono ?_
        rintro e v51 ⟨rfl, hb⟩
        replace BX_a := Aside0.mk (blk_below BX_a.out hb)
        replace BX_b := Aside0.mk (blk_below BX_b.out hb)
        replace BX_s := Aside0.mk (blk_below BX_s.out hb)
        replace BX_t := Aside0.mk (blk_below BX_t.out hb)
        replace BX_d := Aside0.mk (blk_below BX_d.out hb)
        replace BX_c := Aside0.mk (blk_below BX_c.out hb)
        replace BX_n := Aside0.mk (blk_below BX_n.out hb)
        replace BX_r := Aside0.mk (blk_below BX_r.out hb)
        replace BX_q := Aside0.mk (blk_below BX_q.out hb)
        replace RD_a0 := Aside0.mk (RD_a0.out.below hb)
        replace RD_a1 := Aside0.mk (RD_a1.out.below hb)
        replace RD_b0 := Aside0.mk (RD_b0.out.below hb)
        replace RD_b1 := Aside0.mk (RD_b1.out.below hb)
        replace RD_s0 := Aside0.mk (RD_s0.out.below hb)
        replace RD_s1 := Aside0.mk (RD_s1.out.below hb)
        replace RD_o := Aside0.mk (RD_o.out.below hb)
        replace RD_t0 := Aside0.mk (RD_t0.out.below hb)
        replace RD_t1 := Aside0.mk (RD_t1.out.below hb)
        replace RD_d0 := Aside0.mk (RD_d0.out.below hb)
        replace RD_d1 := Aside0.mk (RD_d1.out.below hb)
        replace RD_c0 := Aside0.mk (RD_c0.out.below hb)
        replace RD_c1 := Aside0.mk (RD_c1.out.below hb)
        replace RD_n0 := Aside0.mk (RD_n0.out.below hb)
        replace RD_n1 := Aside0.mk (RD_n1.out.below hb)
        replace RD_r0 := Aside0.mk (RD_r0.out.below hb)
        replace RD_r1 := Aside0.mk (RD_r1.out.below hb)
        replace RD_q0 := Aside0.mk (RD_q0.out.below hb)
        replace RD_q1 := Aside0.mk (RD_q1.out.below hb)
        replace BW := Aside0.mk (below_then BW.out BW.out.size hb)
        clear hb
        go_wp2_with fail
        go_ret
        exact ⟨rfl, BW.out⟩
      case pos =>
        by_cases hc : ec = 0
        case neg =>
          have zd : (ed != 0) = false := by simpa using hd
          have zc : (ec != 0) = true := by simpa using hc
          clear hd hc
          have q47 : v99.cell? ⟨v17.heap.size, 0, none⟩ = some (.slice As ss.length ks) := (blk_cell BX_s.out 0).trans rfl
          have q48 : v99.cell? ⟨v17.heap.size, 1, none⟩ = some (.slice A's ds.length k's) := (blk_cell BX_s.out 1).trans rfl
          have q49 : v99.cell? ⟨v21.heap.size, 0, none⟩ = some (.slice At st.length kt) := (blk_cell BX_t.out 0).trans rfl
          have q50 : v99.cell? ⟨v21.heap.size, 1, none⟩ = some (.slice A't dt.length k't) := (blk_cell BX_t.out 1).trans rfl
          go_wp2_with fail
          clear q47 q48 q49 q50
          refine (same_r (b := true) E2.out RD_s0.out RD_s1.out RD_t0.out RD_t1.out).mono ?_
          rintro e v51 ⟨rfl, hb⟩
          replace BX_a := Aside0.mk (blk_below BX_a.out hb)
          replace BX_b := Aside0.mk (blk_below BX_b.out hb)
          replace BX_s := Aside0.mk (blk_below BX_s.out hb)
          replace BX_t := Aside0.mk (blk_below BX_t.out hb)
          replace BX_d := Aside0.mk (blk_below BX_d.out hb)
          replace BX_c := Aside0.mk (blk_below BX_c.out hb)
          replace BX_n := Aside0.mk (blk_below BX_n.out hb)
          replace BX_r := Aside0.mk (blk_below BX_r.out hb)
          replace BX_q := Aside0.mk (blk_below BX_q.out hb)
          replace RD_a0 := Aside0.mk (RD_a0.out.below hb)
          replace RD_a1 := Aside0.mk (RD_a1.out.below hb)
          replace RD_b0 := Aside0.mk (RD_b0.out.below hb)
          replace RD_b1 := Aside0.mk (RD_b1.out.below hb)
          replace RD_s0 := Aside0.mk (RD_s0.out.below hb)
          replace RD_s1 := Aside0.mk (RD_s1.out.below hb)
          replace RD_o := Aside0.mk (RD_o.out.below hb)
          replace RD_t0 := Aside0.mk (RD_t0.out.below hb)
          replace RD_t1 := Aside0.mk (RD_t1.out.below hb)
          replace RD_d0 := Aside0.mk (RD_d0.out.below hb)
          replace RD_d1 := Aside0.mk (RD_d1.out.below hb)
          replace RD_c0 := Aside0.mk (RD_c0.out.below hb)
          replace RD_c1 := Aside0.mk (RD_c1.out.below hb)
          replace RD_n0 := Aside0.mk (RD_n0.out.below hb)
          replace RD_n1 := Aside0.mk (RD_n1.out.below hb)
          replace RD_r0 := Aside0.mk (RD_r0.out.below hb)
          replace RD_r1 := Aside0.mk (RD_r1.out.below hb)
          replace RD_q0 := Aside0.mk (RD_q0.out.below hb)
          replace RD_q1 := Aside0.mk (RD_q1.out.below hb)
          replace BW := Aside0.mk (below_then BW.out BW.out.size hb)
          clear hb
          go_wp2_with fail
          go_ret
          exact ⟨rfl, BW.out⟩
        case pos =>
          have zd : (ed != 0) = false := by simpa using hd
          have zc : (ec != 0) = false := by simpa using hc
          have zn : (en == 0) = true := by simpa using (E3.out hd hc).1
          have E3b := Aside0.mk (E3.out hd hc).2
          clear hd hc
          have q47 : v99.cell? ⟨v17.heap.size, 0, none⟩ = some (.slice As ss.length ks) := (blk_cell BX_s.out 0).trans rfl
          have q48 : v99.cell? ⟨v17.heap.size, 1, none⟩ = some (.slice A's ds.length k's) := (blk_cell BX_s.out 1).trans rfl
          have q49 : v99.cell? ⟨v21.heap.size, 0, none⟩ = some (.slice At st.length kt) := (blk_cell BX_t.out 0).trans rfl
          have q50 : v99.cell? ⟨v21.heap.size, 1, none⟩ = some (.slice A't dt.length k't) := (blk_cell BX_t.out 1).trans rfl
          go_wp2_with fail
          clear q47 q48 q49 q50
          refine (same_r (b := true) E2.out RD_s0.out RD_s1.out RD_t0.out RD_t1.out).mono ?_
          rintro e v51 ⟨rfl, hb⟩
          replace BX_a := Aside0.mk (blk_below BX_a.out hb)
          replace BX_b := Aside0.mk (blk_below BX_b.out hb)
          replace BX_s := Aside0.mk (blk_below BX_s.out hb)
          replace BX_t := Aside0.mk (blk_below BX_t.out hb)
          replace BX_d := Aside0.mk (blk_below BX_d.out hb)
          replace BX_c := Aside0.mk (blk_below BX_c.out hb)
          replace BX_n := Aside0.mk (blk_below BX_n.out hb)
          replace BX_r := Aside0.mk (blk_below BX_r.out hb)
          replace BX_q := Aside0.mk (blk_below BX_q.out hb)
          replace RD_a0 := Aside0.mk (RD_a0.out.below hb)
          replace RD_a1 := Aside0.mk (RD_a1.out.below hb)
          replace RD_b0 := Aside0.mk (RD_b0.out.below hb)
          replace RD_b1 := Aside0.mk (RD_b1.out.below hb)
          replace RD_s0 := Aside0.mk (RD_s0.out.below hb)
          replace RD_s1 := Aside0.mk (RD_s1.out.below hb)
          replace RD_o := Aside0.mk (RD_o.out.below hb)
          replace RD_t0 := Aside0.mk (RD_t0.out.below hb)
          replace RD_t1 := Aside0.mk (RD_t1.out.below hb)
          replace RD_d0 := Aside0.mk (RD_d0.out.below hb)
          replace RD_d1 := Aside0.mk (RD_d1.out.below hb)
          replace RD_c0 := Aside0.mk (RD_c0.out.below hb)
          replace RD_c1 := Aside0.mk (RD_c1.out.below hb)
          replace RD_n0 := Aside0.mk (RD_n0.out.below hb)
          replace RD_n1 := Aside0.mk (RD_n1.out.below hb)
          replace RD_r0 := Aside0.mk (RD_r0.out.below hb)
          replace RD_r1 := Aside0.mk (RD_r1.out.below hb)
          replace RD_q0 := Aside0.mk (RD_q0.out.below hb)
          replace RD_q1 := Aside0.mk (RD_q1.out.below hb)
          replace BW := Aside0.mk (below_then BW.out BW.out.size hb)
          clear hb
          have q52 : v51.cell? ⟨v27.heap.size, 0, none⟩ = some (.slice Ad sd.length kd) := (blk_cell BX_d.out 0).trans rfl
          have q53 : v51.cell? ⟨v27.heap.size, 1, none⟩ = some (.slice A'd dd.length k'd) := (blk_cell BX_d.out 1).trans rfl
          have q54 : v51.cell? ⟨v37.heap.size, 0, none⟩ = some (.slice An sn.length kn) := (blk_cell BX_n.out 0).trans rfl
          have q55 : v51.cell? ⟨v37.heap.size, 1, none⟩ = some (.slice A'n dn.length k'n) := (blk_cell BX_n.out 1).trans rfl
          go_wp2_with fail
          clear q52 q53 q54 q55
          refine (same_r (b := true) E3b.out RD_d0.out RD_d1.out RD_n0.out RD_n1.out).mono ?_
          rintro e v56 ⟨rfl, hb⟩
          replace BX_a := Aside0.mk (blk_below BX_a.out hb)
          replace BX_b := Aside0.mk (blk_below BX_b.out hb)
          replace BX_s := Aside0.mk (blk_below BX_s.out hb)
          replace BX_t := Aside0.mk (blk_below BX_t.out hb)
          replace BX_d := Aside0.mk (blk_below BX_d.out hb)
          replace BX_c := Aside0.mk (blk_below BX_c.out hb)
          replace BX_n := Aside0.mk (blk_below BX_n.out hb)
          replace BX_r := Aside0.mk (blk_below BX_r.out hb)
          replace BX_q := Aside0.mk (blk_below BX_q.out hb)
          replace RD_a0 := Aside0.mk (RD_a0.out.below hb)
          replace RD_a1 := Aside0.mk (RD_a1.out.below hb)
          replace RD_b0 := Aside0.mk (RD_b0.out.below hb)
          replace RD_b1 := Aside0.mk (RD_b1.out.below hb)
          replace RD_s0 := Aside0.mk (RD_s0.out.below hb)
          replace RD_s1 := Aside0.mk (RD_s1.out.below hb)
          replace RD_o := Aside0.mk (RD_o.out.below hb)
          replace RD_t0 := Aside0.mk (RD_t0.out.below hb)
          replace RD_t1 := Aside0.mk (RD_t1.out.below hb)
          replace RD_d0 := Aside0.mk (RD_d0.out.below hb)
          replace RD_d1 := Aside0.mk (RD_d1.out.below hb)
          replace RD_c0 := Aside0.mk (RD_c0.out.below hb)
          replace RD_c1 := Aside0.mk (RD_c1.out.below hb)
          replace RD_n0 := Aside0.mk (RD_n0.out.below hb)
          replace RD_n1 := Aside0.mk (RD_n1.out.below hb)
          replace RD_r0 := Aside0.mk (RD_r0.out.below hb)
          replace RD_r1 := Aside0.mk (RD_r1.out.below hb)
          replace RD_q0 := Aside0.mk (RD_q0.out.below hb)
          replace RD_q1 := Aside0.mk (RD_q1.out.below hb)
          replace BW := Aside0.mk (below_then BW.out BW.out.size hb)
          clear hb
          go_wp2_with fail
          go_ret
          exact ⟨rfl, BW.out⟩
set_option maxRecDepth 100000 in
theorem doubles_good1 (A0 : Option Addr) (c0 : Nat) (a1 : List Int) (A1 : Option Addr) (c1 : Nat) (a2 : List Int) (A2 : Option Addr) (c2 : Nat) (b1 : List Int) (A3 : Option Addr) (c3 : Nat) (b2 : List Int) (w : World)
    (r0 : Rd w (.slice A0 a1.length c0) a1) (r1 : Rd w (.slice A1 a2.length c1) a2) (i1 : allI a2) (r2 : Rd w (.slice A2 b1.length c2) b1) (r3 : Rd w (.slice A3 b2.length c3) b2) (i2 : allI b2) (g1 : fewB a1 a2 = true) (g2 : fewB b1 b2 = true) (g3 : tOk a1 a2 = true) (g4 : tOk b1 b2 = true)
    (ss ds : List Int) (es : Int) (hs : elemTwo 10 a1 a2 a1 a2 = ((ss, ds), es)) (st dt : List Int) (et : Int) (ht : elemTwo 12 a1 a2 [] [8589934592] = ((st, dt), et)) (sd dd : List Int) (ed : Int) (hd : elemTwo 11 a1 a2 b1 b2 = ((sd, dd), ed)) (sc dc : List Int) (ec : Int) (hc : elemTwo 11 b1 b2 a1 a2 = ((sc, dc), ec)) (sn dn : List Int) (en : Int) (hn : elemOne 20 sc dc = ((sn, dn), en)) (sr dr : List Int) (er : Int) (hr : elemOne 23 a1 a2 = ((sr, dr), er)) (sq dq : List Int) (eq : Int) (hq : elemTwo 12 sr dr sr dr = ((sq, dq), eq))
    (ic : allI dc) (ir : allI dr) (l64 : a2.length ≤ 64)
    (e1 : es = et) (e2 : sameB ss ds st dt = true) (e3 : ed = 0 → ec = 0 → en = 0 ∧ sameB sd dd sn dn = true) (j : er = 0) (ek : eq = 0) (lq : dq.length = a2.length) (hl : ∀ k : Nat, k < a2.length → 0 ≤ rd a2 k ∧ rd dq k ≤ rd a2 k) :
    Calls Try.prog 6 #[.agg #[.slice A0 a1.length c0, .slice A1 a2.length c1], .agg #[.slice A2 b1.length c2, .slice A3 b2.length c3]] w fun e w' => e = .returned (.bool true) ∧ Below w.heap.size w w' := by
  have zr : (er == 0) = true := by simpa using j
  have zq : (eq != 0) = false := by simpa using ek
  have LQ := Aside0.mk lq
  have HL := Aside0.mk hl
  have n1 : ((dq.length : Int) != (a2.length : Int)) = false := by rw [bne_eq_false_iff_eq]; omega
  clear j ek lq hl
  have G1 := Aside0.mk g1
  have G2 := Aside0.mk g2
  have G3 := Aside0.mk g3
  have G4 := Aside0.mk g4
  have Hs := Aside0.mk hs
  have Ht := Aside0.mk ht
  have Hd := Aside0.mk hd
  have Hc := Aside0.mk hc
  have Hn := Aside0.mk hn
  have Hr := Aside0.mk hr
  have Hq := Aside0.mk hq
  have IC := Aside0.mk ic
  have IR := Aside0.mk ir
  have E2 := Aside0.mk e2
  have E3 := Aside0.mk e3
  have L64 := Aside0.mk l64
  have IO : Aside0 (allI [8589934592]) := ⟨fun x hx => by rw [List.mem_singleton] at hx; subst hx; unfold isI64; omega⟩
  have z1 : (es == et) = true := by simpa using e1
  clear g1 g2 g3 g4 ic ir l64 e1 e2 e3 hs ht hd hc hn hr hq
  have RD_a0 := Aside0.mk r0
  have RD_a1 := Aside0.mk r1
  have RD_b0 := Aside0.mk r2
  have RD_b1 := Aside0.mk r3
  have I1 := Aside0.mk i1
  have I2 := Aside0.mk i2
  clear r0 r1 r2 r3 i1 i2
  have BW : Aside0 (Below w.heap.size w w) := ⟨Below.refl _ _⟩
  go_enter Try.func6, Try.ntmps6
  obtain ⟨u1, hu1⟩ : ∃ u, ((w.alloc (Obj.cells #[.slice A0 a1.length c0, .slice A1 a2.length c1] 24)).alloc (Obj.cells #[.slice A2 b1.length c2, .slice A3 b2.length c3] 24)) = u := ⟨_, rfl⟩
  have hbu1 : Below w.heap.size w u1 := by rw [← hu1]; exact below_fold w [Obj.cells #[.slice A0 a1.length c0, .slice A1 a2.length c1] 24, Obj.cells #[.slice A2 b1.length c2, .slice A3 b2.length c3] 24]
  have BX_a : Aside0 (u1.heap[w.heap.size]? = some (.cells #[.slice A0 a1.length c0, .slice A1 a2.length c1] 24 (0, 0))) := ⟨by rw [← hu1]; exact blk_fold w [Obj.cells #[.slice A0 a1.length c0, .slice A1 a2.length c1] 24, Obj.cells #[.slice A2 b1.length c2, .slice A3 b2.length c3] 24] 0 _ rfl⟩
  have BX_b : Aside0 (u1.heap[w.heap.size + 1]? = some (.cells #[.slice A2 b1.length c2, .slice A3 b2.length c3] 24 (0, 0))) := ⟨by rw [← hu1]; exact blk_fold w [Obj.cells #[.slice A0 a1.length c0, .slice A1 a2.length c1] 24, Obj.cells #[.slice A2 b1.length c2, .slice A3 b2.length c3] 24] 1 _ rfl⟩
  have Hu1 := Aside0.mk hu1
  replace RD_a0 := Aside0.mk (RD_a0.out.below hbu1)
  replace RD_a1 := Aside0.mk (RD_a1.out.below hbu1)
  replace RD_b0 := Aside0.mk (RD_b0.out.below hbu1)
  replace RD_b1 := Aside0.mk (RD_b1.out.below hbu1)
  replace BW := Aside0.mk (below_then BW.out BW.out.size hbu1)
  clear hbu1 hu1
  go_wp2_with fail
  rw [Hu1.out]
  clear Hu1
  refine (awake04 _).mono ?_
  rintro e v2 ⟨rfl, hb⟩
  replace BX_a := Aside0.mk (blk_below BX_a.out hb)
  replace BX_b := Aside0.mk (blk_below BX_b.out hb)
  replace RD_a0 := Aside0.mk (RD_a0.out.below hb)
  replace RD_a1 := Aside0.mk (RD_a1.out.below hb)
  replace RD_b0 := Aside0.mk (RD_b0.out.below hb)
  replace RD_b1 := Aside0.mk (RD_b1.out.below hb)
  replace BW := Aside0.mk (below_then BW.out BW.out.size hb)
  clear hb
  have q3 : v2.cell? ⟨w.heap.size, 0, none⟩ = some (.slice A0 a1.length c0) := (blk_cell BX_a.out 0).trans rfl
  have q4 : v2.cell? ⟨w.heap.size, 1, none⟩ = some (.slice A1 a2.length c1) := (blk_cell BX_a.out 1).trans rfl
  go_wp2_with fail
  clear q3 q4
  refine (few_r (b := true) (s := a1) (d := a2) G1.out).mono ?_
  rintro e v5 ⟨rfl, hb⟩
  replace BX_a := Aside0.mk (blk_below BX_a.out hb)
  replace BX_b := Aside0.mk (blk_below BX_b.out hb)
  replace RD_a0 := Aside0.mk (RD_a0.out.below hb)
  replace RD_a1 := Aside0.mk (RD_a1.out.below hb)
  replace RD_b0 := Aside0.mk (RD_b0.out.below hb)
  replace RD_b1 := Aside0.mk (RD_b1.out.below hb)
  replace BW := Aside0.mk (below_then BW.out BW.out.size hb)
  clear hb
  have q6 : v5.cell? ⟨w.heap.size + 1, 0, none⟩ = some (.slice A2 b1.length c2) := (blk_cell BX_b.out 0).trans rfl
  have q7 : v5.cell? ⟨w.heap.size + 1, 1, none⟩ = some (.slice A3 b2.length c3) := (blk_cell BX_b.out 1).trans rfl
  go_wp2_with fail
  clear q6 q7
  refine (few_r (b := true) (s := b1) (d := b2) G2.out).mono ?_
  rintro e v8 ⟨rfl, hb⟩
  replace BX_a := Aside0.mk (blk_below BX_a.out hb)
  replace BX_b := Aside0.mk (blk_below BX_b.out hb)
  replace RD_a0 := Aside0.mk (RD_a0.out.below hb)
  replace RD_a1 := Aside0.mk (RD_a1.out.below hb)
  replace RD_b0 := Aside0.mk (RD_b0.out.below hb)
  replace RD_b1 := Aside0.mk (RD_b1.out.below hb)
  replace BW := Aside0.mk (below_then BW.out BW.out.size hb)
  clear hb
  have q9 : v8.cell? ⟨w.heap.size, 0, none⟩ = some (.slice A0 a1.length c0) := (blk_cell BX_a.out 0).trans rfl
  have q10 : v8.cell? ⟨w.heap.size, 1, none⟩ = some (.slice A1 a2.length c1) := (blk_cell BX_a.out 1).trans rfl
  go_wp2_with fail
  clear q9 q10
  refine (tcheck_r (b := true) G3.out RD_a0.out).mono ?_
  rintro e v11 ⟨rfl, hb⟩
  replace BX_a := Aside0.mk (blk_below BX_a.out hb)
  replace BX_b := Aside0.mk (blk_below BX_b.out hb)
  replace RD_a0 := Aside0.mk (RD_a0.out.below hb)
  replace RD_a1 := Aside0.mk (RD_a1.out.below hb)
  replace RD_b0 := Aside0.mk (RD_b0.out.below hb)
  replace RD_b1 := Aside0.mk (RD_b1.out.below hb)
  replace BW := Aside0.mk (below_then BW.out BW.out.size hb)
  clear hb
  have q12 : v11.cell? ⟨w.heap.size + 1, 0, none⟩ = some (.slice A2 b1.length c2) := (blk_cell BX_b.out 0).trans rfl
  have q13 : v11.cell? ⟨w.heap.size + 1, 1, none⟩ = some (.slice A3 b2.length c3) := (blk_cell BX_b.out 1).trans rfl
  go_wp2_with fail
  clear q12 q13
  refine (tcheck_r (b := true) G4.out RD_b0.out).mono ?_
  rintro e v14 ⟨rfl, hb⟩
  replace BX_a := Aside0.mk (blk_below BX_a.out hb)
  replace BX_b := Aside0.mk (blk_below BX_b.out hb)
  replace RD_a0 := Aside0.mk (RD_a0.out.below hb)
  replace RD_a1 := Aside0.mk (RD_a1.out.below hb)
  replace RD_b0 := Aside0.mk (RD_b0.out.below hb)
  replace RD_b1 := Aside0.mk (RD_b1.out.below hb)
  replace BW := Aside0.mk (below_then BW.out BW.out.size hb)
  clear hb
  have q15 : v14.cell? ⟨w.heap.size, 0, none⟩ = some (.slice A0 a1.length c0) := (blk_cell BX_a.out 0).trans rfl
  have q16 : v14.cell? ⟨w.heap.size, 1, none⟩ = some (.slice A1 a2.length c1) := (blk_cell BX_a.out 1).trans rfl
  go_wp2_with fail
  clear q15 q16
  refine (two_r 10 Hs.out RD_a0.out RD_a1.out RD_a0.out RD_a1.out I1.out I1.out).mono ?_
  rintro e v17 ⟨As, ks, A's, k's, rfl, r0, r1, hb⟩
  have RD_s0 := Aside0.mk r0
  have RD_s1 := Aside0.mk r1
  replace BX_a := Aside0.mk (blk_below BX_a.out hb)
  replace BX_b := Aside0.mk (blk_below BX_b.out hb)
  replace RD_a0 := Aside0.mk (RD_a0.out.below hb)
  replace RD_a1 := Aside0.mk (RD_a1.out.below hb)
  replace RD_b0 := Aside0.mk (RD_b0.out.below hb)
  replace RD_b1 := Aside0.mk (RD_b1.out.below hb)
  replace BW := Aside0.mk (below_then BW.out BW.out.size hb)
  clear hb r0 r1
  have q18 : (v17.alloc (Obj.cells #[.slice As ss.length ks, .slice A's ds.length k's] 24)).cell? ⟨w.heap.size, 0, none⟩ = some (.slice A0 a1.length c0) := (blk_cell (blk_below BX_a.out (below_fold v17 [Obj.cells #[.slice As ss.length ks, .slice A's ds.length k's] 24])) 0).trans rfl
  have q19 : (v17.alloc (Obj.cells #[.slice As ss.length ks, .slice A's ds.length k's] 24)).cell? ⟨w.heap.size, 1, none⟩ = some (.slice A1 a2.length c1) := (blk_cell (blk_below BX_a.out (below_fold v17 [Obj.cells #[.slice As ss.length ks, .slice A's ds.length k's] 24])) 1).trans rfl
  obtain ⟨u20, hu20⟩ : ∃ u, ((v17.alloc (Obj.cells #[.slice As ss.length ks, .slice A's ds.length k's] 24)).alloc (Obj.cells #[.int .i64 8589934592] 3)) = u := ⟨_, rfl⟩
  have hbu20 : Below v17.heap.size v17 u20 := by rw [← hu20]; exact below_fold v17 [Obj.cells #[.slice As ss.length ks, .slice A's ds.length k's] 24, Obj.cells #[.int .i64 8589934592] 3]
  have BX_s : Aside0 (u20.heap[v17.heap.size]? = some (.cells #[.slice As ss.length ks, .slice A's ds.length k's] 24 (0, 0))) := ⟨by rw [← hu20]; exact blk_fold v17 [Obj.cells #[.slice As ss.length ks, .slice A's ds.length k's] 24, Obj.cells #[.int .i64 8589934592] 3] 0 _ rfl⟩
  have RD_o : Aside0 (Rd u20 (.slice (some ⟨v17.heap.size + 1, 0, none⟩) 1 1) [8589934592]) := ⟨by rw [← hu20]; exact Rd.of_blk (xs := [8589934592]) (blk_fold v17 [Obj.cells #[.slice As ss.length ks, .slice A's ds.length k's] 24, Obj.cells #[.int .i64 8589934592] 3] 1 _ rfl) (by decide)⟩
  have Hu20 := Aside0.mk hu20
  replace BX_a := Aside0.mk (blk_below BX_a.out hbu20)
  replace BX_b := Aside0.mk (blk_below BX_b.out hbu20)
  replace RD_a0 := Aside0.mk (RD_a0.out.below hbu20)
  replace RD_a1 := Aside0.mk (RD_a1.out.below hbu20)
  replace RD_b0 := Aside0.mk (RD_b0.out.below hbu20)
  replace RD_b1 := Aside0.mk (RD_b1.out.below hbu20)
  replace RD_s0 := Aside0.mk (RD_s0.out.below hbu20)
  replace RD_s1 := Aside0.mk (RD_s1.out.below hbu20)
  replace BW := Aside0.mk (below_then BW.out BW.out.size hbu20)
  clear hbu20 hu20
  go_wp2_with fail
  rw [Hu20.out]
  clear q18 q19
  clear Hu20
  refine (two_r 12 Ht.out RD_a0.out RD_a1.out (A2 := none) (c2 := 0) (Rd.nil _) RD_o.out I1.out IO.out).mono ?_
  rintro e v21 ⟨At, kt, A't, k't, rfl, r0, r1, hb⟩
  have RD_t0 := Aside0.mk r0
  have RD_t1 := Aside0.mk r1
  replace BX_a := Aside0.mk (blk_below BX_a.out hb)
  replace BX_b := Aside0.mk (blk_below BX_b.out hb)
  replace BX_s := Aside0.mk (blk_below BX_s.out hb)
  replace RD_a0 := Aside0.mk (RD_a0.out.below hb)
  replace RD_a1 := Aside0.mk (RD_a1.out.below hb)
  replace RD_b0 := Aside0.mk (RD_b0.out.below hb)
  replace RD_b1 := Aside0.mk (RD_b1.out.below hb)
  replace RD_s0 := Aside0.mk (RD_s0.out.below hb)
  replace RD_s1 := Aside0.mk (RD_s1.out.below hb)
  replace RD_o := Aside0.mk (RD_o.out.below hb)
  replace BW := Aside0.mk (below_then BW.out BW.out.size hb)
  clear hb r0 r1
  have q22 : (v21.alloc (Obj.cells #[.slice At st.length kt, .slice A't dt.length k't] 24)).cell? ⟨w.heap.size, 0, none⟩ = some (.slice A0 a1.length c0) := (blk_cell (blk_below BX_a.out (below_fold v21 [Obj.cells #[.slice At st.length kt, .slice A't dt.length k't] 24])) 0).trans rfl
  have q23 : (v21.alloc (Obj.cells #[.slice At st.length kt, .slice A't dt.length k't] 24)).cell? ⟨w.heap.size, 1, none⟩ = some (.slice A1 a2.length c1) := (blk_cell (blk_below BX_a.out (below_fold v21 [Obj.cells #[.slice At st.length kt, .slice A't dt.length k't] 24])) 1).trans rfl
  have q24 : (v21.alloc (Obj.cells #[.slice At st.length kt, .slice A't dt.length k't] 24)).cell? ⟨w.heap.size + 1, 0, none⟩ = some (.slice A2 b1.length c2) := (blk_cell (blk_below BX_b.out (below_fold v21 [Obj.cells #[.slice At st.length kt, .slice A't dt.length k't] 24])) 0).trans rfl
  have q25 : (v21.alloc (Obj.cells #[.slice At st.length kt, .slice A't dt.length k't] 24)).cell? ⟨w.heap.size + 1, 1, none⟩ = some (.slice A3 b2.length c3) := (blk_cell (blk_below BX_b.out (below_fold v21 [Obj.cells #[.slice At st.length kt, .slice A't dt.length k't] 24])) 1).trans rfl
  obtain ⟨u26, hu26⟩ : ∃ u, (v21.alloc (Obj.cells #[.slice At st.length kt, .slice A't dt.length k't] 24)) = u := ⟨_, rfl⟩
  have hbu26 : Below v21.heap.size v21 u26 := by rw [← hu26]; exact below_fold v21 [Obj.cells #[.slice At st.length kt, .slice A't dt.length k't] 24]
  have BX_t : Aside0 (u26.heap[v21.heap.size]? = some (.cells #[.slice At st.length kt, .slice A't dt.length k't] 24 (0, 0))) := ⟨by rw [← hu26]; exact blk_fold v21 [Obj.cells #[.slice At st.length kt, .slice A't dt.length k't] 24] 0 _ rfl⟩
  have Hu26 := Aside0.mk hu26
  replace BX_a := Aside0.mk (blk_below BX_a.out hbu26)
  replace BX_b := Aside0.mk (blk_below BX_b.out hbu26)
  replace BX_s := Aside0.mk (blk_below BX_s.out hbu26)
  replace RD_a0 := Aside0.mk (RD_a0.out.below hbu26)
  replace RD_a1 := Aside0.mk (RD_a1.out.below hbu26)
  replace RD_b0 := Aside0.mk (RD_b0.out.below hbu26)
  replace RD_b1 := Aside0.mk (RD_b1.out.below hbu26)
  replace RD_s0 := Aside0.mk (RD_s0.out.below hbu26)
  replace RD_s1 := Aside0.mk (RD_s1.out.below hbu26)
  replace RD_o := Aside0.mk (RD_o.out.below hbu26)
  replace RD_t0 := Aside0.mk (RD_t0.out.below hbu26)
  replace RD_t1 := Aside0.mk (RD_t1.out.below hbu26)
  replace BW := Aside0.mk (below_then BW.out BW.out.size hbu26)
  clear hbu26 hu26
  go_wp2_with fail
  rw [Hu26.out]
  clear q22 q23 q24 q25
  clear Hu26
  refine (two_r 11 Hd.out RD_a0.out RD_a1.out RD_b0.out RD_b1.out I1.out I2.out).mono ?_
  rintro e v27 ⟨Ad, kd, A'd, k'd, rfl, r0, r1, hb⟩
  have RD_d0 := Aside0.mk r0
  have RD_d1 := Aside0.mk r1
  replace BX_a := Aside0.mk (blk_below BX_a.out hb)
  replace BX_b := Aside0.mk (blk_below BX_b.out hb)
  replace BX_s := Aside0.mk (blk_below BX_s.out hb)
  replace BX_t := Aside0.mk (blk_below BX_t.out hb)
  replace RD_a0 := Aside0.mk (RD_a0.out.below hb)
  replace RD_a1 := Aside0.mk (RD_a1.out.below hb)
  replace RD_b0 := Aside0.mk (RD_b0.out.below hb)
  replace RD_b1 := Aside0.mk (RD_b1.out.below hb)
  replace RD_s0 := Aside0.mk (RD_s0.out.below hb)
  replace RD_s1 := Aside0.mk (RD_s1.out.below hb)
  replace RD_o := Aside0.mk (RD_o.out.below hb)
  replace RD_t0 := Aside0.mk (RD_t0.out.below hb)
  replace RD_t1 := Aside0.mk (RD_t1.out.below hb)
  replace BW := Aside0.mk (below_then BW.out BW.out.size hb)
  clear hb r0 r1
  have q28 : (v27.alloc (Obj.cells #[.slice Ad sd.length kd, .slice A'd dd.length k'd] 24)).cell? ⟨w.heap.size, 0, none⟩ = some (.slice A0 a1.length c0) := (blk_cell (blk_below BX_a.out (below_fold v27 [Obj.cells #[.slice Ad sd.length kd, .slice A'd dd.length k'd] 24])) 0).trans rfl
  have q29 : (v27.alloc (Obj.cells #[.slice Ad sd.length kd, .slice A'd dd.length k'd] 24)).cell? ⟨w.heap.size, 1, none⟩ = some (.slice A1 a2.length c1) := (blk_cell (blk_below BX_a.out (below_fold v27 [Obj.cells #[.slice Ad sd.length kd, .slice A'd dd.length k'd] 24])) 1).trans rfl
  have q30 : (v27.alloc (Obj.cells #[.slice Ad sd.length kd, .slice A'd dd.length k'd] 24)).cell? ⟨w.heap.size + 1, 0, none⟩ = some (.slice A2 b1.length c2) := (blk_cell (blk_below BX_b.out (below_fold v27 [Obj.cells #[.slice Ad sd.length kd, .slice A'd dd.length k'd] 24])) 0).trans rfl
  have q31 : (v27.alloc (Obj.cells #[.slice Ad sd.length kd, .slice A'd dd.length k'd] 24)).cell? ⟨w.heap.size + 1, 1, none⟩ = some (.slice A3 b2.length c3) := (blk_cell (blk_below BX_b.out (below_fold v27 [Obj.cells #[.slice Ad sd.length kd, .slice A'd dd.length k'd] 24])) 1).trans rfl
  obtain ⟨u32, hu32⟩ : ∃ u, (v27.alloc (Obj.cells #[.slice Ad sd.length kd, .slice A'd dd.length k'd] 24)) = u := ⟨_, rfl⟩
  have hbu32 : Below v27.heap.size v27 u32 := by rw [← hu32]; exact below_fold v27 [Obj.cells #[.slice Ad sd.length kd, .slice A'd dd.length k'd] 24]
  have BX_d : Aside0 (u32.heap[v27.heap.size]? = some (.cells #[.slice Ad sd.length kd, .slice A'd dd.length k'd] 24 (0, 0))) := ⟨by rw [← hu32]; exact blk_fold v27 [Obj.cells #[.slice Ad sd.length kd, .slice A'd dd.length k'd] 24] 0 _ rfl⟩
  have Hu32 := Aside0.mk hu32
  replace BX_a := Aside0.mk (blk_below BX_a.out hbu32)
  replace BX_b := Aside0.mk (blk_below BX_b.out hbu32)
  replace BX_s := Aside0.mk (blk_below BX_s.out hbu32)
  replace BX_t := Aside0.mk (blk_below BX_t.out hbu32)
  replace RD_a0 := Aside0.mk (RD_a0.out.below hbu32)
  replace RD_a1 := Aside0.mk (RD_a1.out.below hbu32)
  replace RD_b0 := Aside0.mk (RD_b0.out.below hbu32)
  replace RD_b1 := Aside0.mk (RD_b1.out.below hbu32)
  replace RD_s0 := Aside0.mk (RD_s0.out.below hbu32)
  replace RD_s1 := Aside0.mk (RD_s1.out.below hbu32)
  replace RD_o := Aside0.mk (RD_o.out.below hbu32)
  replace RD_t0 := Aside0.mk (RD_t0.out.below hbu32)
  replace RD_t1 := Aside0.mk (RD_t1.out.below hbu32)
  replace RD_d0 := Aside0.mk (RD_d0.out.below hbu32)
  replace RD_d1 := Aside0.mk (RD_d1.out.below hbu32)
  replace BW := Aside0.mk (below_then BW.out BW.out.size hbu32)
  clear hbu32 hu32
  go_wp2_with fail
  rw [Hu32.out]
  clear q28 q29 q30 q31
  clear Hu32
  refine (two_r 11 Hc.out RD_b0.out RD_b1.out RD_a0.out RD_a1.out I2.out I1.out).mono ?_
  rintro e v33 ⟨Ac, kc, A'c, k'c, rfl, r0, r1, hb⟩
  have RD_c0 := Aside0.mk r0
  have RD_c1 := Aside0.mk r1
  replace BX_a := Aside0.mk (blk_below BX_a.out hb)
  replace BX_b := Aside0.mk (blk_below BX_b.out hb)
  replace BX_s := Aside0.mk (blk_below BX_s.out hb)
  replace BX_t := Aside0.mk (blk_below BX_t.out hb)
  replace BX_d := Aside0.mk (blk_below BX_d.out hb)
  replace RD_a0 := Aside0.mk (RD_a0.out.below hb)
  replace RD_a1 := Aside0.mk (RD_a1.out.below hb)
  replace RD_b0 := Aside0.mk (RD_b0.out.below hb)
  replace RD_b1 := Aside0.mk (RD_b1.out.below hb)
  replace RD_s0 := Aside0.mk (RD_s0.out.below hb)
  replace RD_s1 := Aside0.mk (RD_s1.out.below hb)
  replace RD_o := Aside0.mk (RD_o.out.below hb)
  replace RD_t0 := Aside0.mk (RD_t0.out.below hb)
  replace RD_t1 := Aside0.mk (RD_t1.out.below hb)
  replace RD_d0 := Aside0.mk (RD_d0.out.below hb)
  replace RD_d1 := Aside0.mk (RD_d1.out.below hb)
  replace BW := Aside0.mk (below_then BW.out BW.out.size hb)
  clear hb r0 r1
  have q34 : (v33.alloc (Obj.cells #[.slice Ac sc.length kc, .slice A'c dc.length k'c] 24)).cell? ⟨v33.heap.size, 0, none⟩ = some (.slice Ac sc.length kc) := (blk_cell (blk_fold v33 [Obj.cells #[.slice Ac sc.length kc, .slice A'c dc.length k'c] 24] 0 _ rfl) 0).trans rfl
  have q35 : (v33.alloc (Obj.cells #[.slice Ac sc.length kc, .slice A'c dc.length k'c] 24)).cell? ⟨v33.heap.size, 1, none⟩ = some (.slice A'c dc.length k'c) := (blk_cell (blk_fold v33 [Obj.cells #[.slice Ac sc.length kc, .slice A'c dc.length k'c] 24] 0 _ rfl) 1).trans rfl
  obtain ⟨u36, hu36⟩ : ∃ u, (v33.alloc (Obj.cells #[.slice Ac sc.length kc, .slice A'c dc.length k'c] 24)) = u := ⟨_, rfl⟩
  have hbu36 : Below v33.heap.size v33 u36 := by rw [← hu36]; exact below_fold v33 [Obj.cells #[.slice Ac sc.length kc, .slice A'c dc.length k'c] 24]
  have BX_c : Aside0 (u36.heap[v33.heap.size]? = some (.cells #[.slice Ac sc.length kc, .slice A'c dc.length k'c] 24 (0, 0))) := ⟨by rw [← hu36]; exact blk_fold v33 [Obj.cells #[.slice Ac sc.length kc, .slice A'c dc.length k'c] 24] 0 _ rfl⟩
  have Hu36 := Aside0.mk hu36
  replace BX_a := Aside0.mk (blk_below BX_a.out hbu36)
  replace BX_b := Aside0.mk (blk_below BX_b.out hbu36)
  replace BX_s := Aside0.mk (blk_below BX_s.out hbu36)
  replace BX_t := Aside0.mk (blk_below BX_t.out hbu36)
  replace BX_d := Aside0.mk (blk_below BX_d.out hbu36)
  replace RD_a0 := Aside0.mk (RD_a0.out.below hbu36)
  replace RD_a1 := Aside0.mk (RD_a1.out.below hbu36)
  replace RD_b0 := Aside0.mk (RD_b0.out.below hbu36)
  replace RD_b1 := Aside0.mk (RD_b1.out.below hbu36)
  replace RD_s0 := Aside0.mk (RD_s0.out.below hbu36)
  replace RD_s1 := Aside0.mk (RD_s1.out.below hbu36)
  replace RD_o := Aside0.mk (RD_o.out.below hbu36)
  replace RD_t0 := Aside0.mk (RD_t0.out.below hbu36)
  replace RD_t1 := Aside0.mk (RD_t1.out.below hbu36)
  replace RD_d0 := Aside0.mk (RD_d0.out.below hbu36)
  replace RD_d1 := Aside0.mk (RD_d1.out.below hbu36)
  replace RD_c0 := Aside0.mk (RD_c0.out.below hbu36)
  replace RD_c1 := Aside0.mk (RD_c1.out.below hbu36)
  replace BW := Aside0.mk (below_then BW.out BW.out.size hbu36)
  clear hbu36 hu36
  go_wp2_with fail
  rw [Hu36.out]
  clear q34 q35
  clear Hu36
  refine (one_r 20 Hn.out RD_c0.out RD_c1.out IC.out).mono ?_
  rintro e v37 ⟨An, kn, A'n, k'n, rfl, r0, r1, hb⟩
  have RD_n0 := Aside0.mk r0
  have RD_n1 := Aside0.mk r1
  replace BX_a := Aside0.mk (blk_below BX_a.out hb)
  replace BX_b := Aside0.mk (blk_below BX_b.out hb)
  replace BX_s := Aside0.mk (blk_below BX_s.out hb)
  replace BX_t := Aside0.mk (blk_below BX_t.out hb)
  replace BX_d := Aside0.mk (blk_below BX_d.out hb)
  replace BX_c := Aside0.mk (blk_below BX_c.out hb)
  replace RD_a0 := Aside0.mk (RD_a0.out.below hb)
  replace RD_a1 := Aside0.mk (RD_a1.out.below hb)
  replace RD_b0 := Aside0.mk (RD_b0.out.below hb)
  replace RD_b1 := Aside0.mk (RD_b1.out.below hb)
  replace RD_s0 := Aside0.mk (RD_s0.out.below hb)
  replace RD_s1 := Aside0.mk (RD_s1.out.below hb)
  replace RD_o := Aside0.mk (RD_o.out.below hb)
  replace RD_t0 := Aside0.mk (RD_t0.out.below hb)
  replace RD_t1 := Aside0.mk (RD_t1.out.below hb)
  replace RD_d0 := Aside0.mk (RD_d0.out.below hb)
  replace RD_d1 := Aside0.mk (RD_d1.out.below hb)
  replace RD_c0 := Aside0.mk (RD_c0.out.below hb)
  replace RD_c1 := Aside0.mk (RD_c1.out.below hb)
  replace BW := Aside0.mk (below_then BW.out BW.out.size hb)
  clear hb r0 r1
  have q38 : (v37.alloc (Obj.cells #[.slice An sn.length kn, .slice A'n dn.length k'n] 24)).cell? ⟨w.heap.size, 0, none⟩ = some (.slice A0 a1.length c0) := (blk_cell (blk_below BX_a.out (below_fold v37 [Obj.cells #[.slice An sn.length kn, .slice A'n dn.length k'n] 24])) 0).trans rfl
  have q39 : (v37.alloc (Obj.cells #[.slice An sn.length kn, .slice A'n dn.length k'n] 24)).cell? ⟨w.heap.size, 1, none⟩ = some (.slice A1 a2.length c1) := (blk_cell (blk_below BX_a.out (below_fold v37 [Obj.cells #[.slice An sn.length kn, .slice A'n dn.length k'n] 24])) 1).trans rfl
  obtain ⟨u40, hu40⟩ : ∃ u, (v37.alloc (Obj.cells #[.slice An sn.length kn, .slice A'n dn.length k'n] 24)) = u := ⟨_, rfl⟩
  have hbu40 : Below v37.heap.size v37 u40 := by rw [← hu40]; exact below_fold v37 [Obj.cells #[.slice An sn.length kn, .slice A'n dn.length k'n] 24]
  have BX_n : Aside0 (u40.heap[v37.heap.size]? = some (.cells #[.slice An sn.length kn, .slice A'n dn.length k'n] 24 (0, 0))) := ⟨by rw [← hu40]; exact blk_fold v37 [Obj.cells #[.slice An sn.length kn, .slice A'n dn.length k'n] 24] 0 _ rfl⟩
  have Hu40 := Aside0.mk hu40
  replace BX_a := Aside0.mk (blk_below BX_a.out hbu40)
  replace BX_b := Aside0.mk (blk_below BX_b.out hbu40)
  replace BX_s := Aside0.mk (blk_below BX_s.out hbu40)
  replace BX_t := Aside0.mk (blk_below BX_t.out hbu40)
  replace BX_d := Aside0.mk (blk_below BX_d.out hbu40)
  replace BX_c := Aside0.mk (blk_below BX_c.out hbu40)
  replace RD_a0 := Aside0.mk (RD_a0.out.below hbu40)
  replace RD_a1 := Aside0.mk (RD_a1.out.below hbu40)
  replace RD_b0 := Aside0.mk (RD_b0.out.below hbu40)
  replace RD_b1 := Aside0.mk (RD_b1.out.below hbu40)
  replace RD_s0 := Aside0.mk (RD_s0.out.below hbu40)
  replace RD_s1 := Aside0.mk (RD_s1.out.below hbu40)
  replace RD_o := Aside0.mk (RD_o.out.below hbu40)
  replace RD_t0 := Aside0.mk (RD_t0.out.below hbu40)
  replace RD_t1 := Aside0.mk (RD_t1.out.below hbu40)
  replace RD_d0 := Aside0.mk (RD_d0.out.below hbu40)
  replace RD_d1 := Aside0.mk (RD_d1.out.below hbu40)
  replace RD_c0 := Aside0.mk (RD_c0.out.below hbu40)
  replace RD_c1 := Aside0.mk (RD_c1.out.below hbu40)
  replace RD_n0 := Aside0.mk (RD_n0.out.below hbu40)
  replace RD_n1 := Aside0.mk (RD_n1.out.below hbu40)
  replace BW := Aside0.mk (below_then BW.out BW.out.size hbu40)
  clear hbu40 hu40
  go_wp2_with fail
  rw [Hu40.out]
  clear q38 q39
  clear Hu40
  refine (one_r 23 Hr.out RD_a0.out RD_a1.out I1.out).mono ?_
  rintro e v41 ⟨Ar, kr, A'r, k'r, rfl, r0, r1, hb⟩
  have RD_r0 := Aside0.mk r0
  have RD_r1 := Aside0.mk r1
  replace BX_a := Aside0.mk (blk_below BX_a.out hb)
  replace BX_b := Aside0.mk (blk_below BX_b.out hb)
  replace BX_s := Aside0.mk (blk_below BX_s.out hb)
  replace BX_t := Aside0.mk (blk_below BX_t.out hb)
  replace BX_d := Aside0.mk (blk_below BX_d.out hb)
  replace BX_c := Aside0.mk (blk_below BX_c.out hb)
  replace BX_n := Aside0.mk (blk_below BX_n.out hb)
  replace RD_a0 := Aside0.mk (RD_a0.out.below hb)
  replace RD_a1 := Aside0.mk (RD_a1.out.below hb)
  replace RD_b0 := Aside0.mk (RD_b0.out.below hb)
  replace RD_b1 := Aside0.mk (RD_b1.out.below hb)
  replace RD_s0 := Aside0.mk (RD_s0.out.below hb)
  replace RD_s1 := Aside0.mk (RD_s1.out.below hb)
  replace RD_o := Aside0.mk (RD_o.out.below hb)
  replace RD_t0 := Aside0.mk (RD_t0.out.below hb)
  replace RD_t1 := Aside0.mk (RD_t1.out.below hb)
  replace RD_d0 := Aside0.mk (RD_d0.out.below hb)
  replace RD_d1 := Aside0.mk (RD_d1.out.below hb)
  replace RD_c0 := Aside0.mk (RD_c0.out.below hb)
  replace RD_c1 := Aside0.mk (RD_c1.out.below hb)
  replace RD_n0 := Aside0.mk (RD_n0.out.below hb)
  replace RD_n1 := Aside0.mk (RD_n1.out.below hb)
  replace BW := Aside0.mk (below_then BW.out BW.out.size hb)
  clear hb r0 r1
  have q42 : (v41.alloc (Obj.cells #[.slice Ar sr.length kr, .slice A'r dr.length k'r] 24)).cell? ⟨v41.heap.size, 0, none⟩ = some (.slice Ar sr.length kr) := (blk_cell (blk_fold v41 [Obj.cells #[.slice Ar sr.length kr, .slice A'r dr.length k'r] 24] 0 _ rfl) 0).trans rfl
  have q43 : (v41.alloc (Obj.cells #[.slice Ar sr.length kr, .slice A'r dr.length k'r] 24)).cell? ⟨v41.heap.size, 1, none⟩ = some (.slice A'r dr.length k'r) := (blk_cell (blk_fold v41 [Obj.cells #[.slice Ar sr.length kr, .slice A'r dr.length k'r] 24] 0 _ rfl) 1).trans rfl
  obtain ⟨u44, hu44⟩ : ∃ u, (v41.alloc (Obj.cells #[.slice Ar sr.length kr, .slice A'r dr.length k'r] 24)) = u := ⟨_, rfl⟩
  have hbu44 : Below v41.heap.size v41 u44 := by rw [← hu44]; exact below_fold v41 [Obj.cells #[.slice Ar sr.length kr, .slice A'r dr.length k'r] 24]
  have BX_r : Aside0 (u44.heap[v41.heap.size]? = some (.cells #[.slice Ar sr.length kr, .slice A'r dr.length k'r] 24 (0, 0))) := ⟨by rw [← hu44]; exact blk_fold v41 [Obj.cells #[.slice Ar sr.length kr, .slice A'r dr.length k'r] 24] 0 _ rfl⟩
  have Hu44 := Aside0.mk hu44
  replace BX_a := Aside0.mk (blk_below BX_a.out hbu44)
  replace BX_b := Aside0.mk (blk_below BX_b.out hbu44)
  replace BX_s := Aside0.mk (blk_below BX_s.out hbu44)
  replace BX_t := Aside0.mk (blk_below BX_t.out hbu44)
  replace BX_d := Aside0.mk (blk_below BX_d.out hbu44)
  replace BX_c := Aside0.mk (blk_below BX_c.out hbu44)
  replace BX_n := Aside0.mk (blk_below BX_n.out hbu44)
  replace RD_a0 := Aside0.mk (RD_a0.out.below hbu44)
  replace RD_a1 := Aside0.mk (RD_a1.out.below hbu44)
  replace RD_b0 := Aside0.mk (RD_b0.out.below hbu44)
  replace RD_b1 := Aside0.mk (RD_b1.out.below hbu44)
  replace RD_s0 := Aside0.mk (RD_s0.out.below hbu44)
  replace RD_s1 := Aside0.mk (RD_s1.out.below hbu44)
  replace RD_o := Aside0.mk (RD_o.out.below hbu44)
  replace RD_t0 := Aside0.mk (RD_t0.out.below hbu44)
  replace RD_t1 := Aside0.mk (RD_t1.out.below hbu44)
  replace RD_d0 := Aside0.mk (RD_d0.out.below hbu44)
  replace RD_d1 := Aside0.mk (RD_d1.out.below hbu44)
  replace RD_c0 := Aside0.mk (RD_c0.out.below hbu44)
  replace RD_c1 := Aside0.mk (RD_c1.out.below hbu44)
  replace RD_n0 := Aside0.mk (RD_n0.out.below hbu44)
  replace RD_n1 := Aside0.mk (RD_n1.out.below hbu44)
  replace RD_r0 := Aside0.mk (RD_r0.out.below hbu44)
  replace RD_r1 := Aside0.mk (RD_r1.out.below hbu44)
  replace BW := Aside0.mk (below_then BW.out BW.out.size hbu44)
  clear hbu44 hu44
  go_wp2_with fail
  rw [Hu44.out]
  clear q42 q43
  clear Hu44
  refine (two_r 12 Hq.out RD_r0.out RD_r1.out RD_r0.out RD_r1.out IR.out IR.out).mono ?_
  rintro e v45 ⟨Aq, kq, A'q, k'q, rfl, r0, r1, hb⟩
  have RD_q0 := Aside0.mk r0
  have RD_q1 := Aside0.mk r1
  replace BX_a := Aside0.mk (blk_below BX_a.out hb)
  replace BX_b := Aside0.mk (blk_below BX_b.out hb)
  replace BX_s := Aside0.mk (blk_below BX_s.out hb)
  replace BX_t := Aside0.mk (blk_below BX_t.out hb)
  replace BX_d := Aside0.mk (blk_below BX_d.out hb)
  replace BX_c := Aside0.mk (blk_below BX_c.out hb)
  replace BX_n := Aside0.mk (blk_below BX_n.out hb)
  replace BX_r := Aside0.mk (blk_below BX_r.out hb)
  replace RD_a0 := Aside0.mk (RD_a0.out.below hb)
  replace RD_a1 := Aside0.mk (RD_a1.out.below hb)
  replace RD_b0 := Aside0.mk (RD_b0.out.below hb)
  replace RD_b1 := Aside0.mk (RD_b1.out.below hb)
  replace RD_s0 := Aside0.mk (RD_s0.out.below hb)
  replace RD_s1 := Aside0.mk (RD_s1.out.below hb)
  replace RD_o := Aside0.mk (RD_o.out.below hb)
  replace RD_t0 := Aside0.mk (RD_t0.out.below hb)
  replace RD_t1 := Aside0.mk (RD_t1.out.below hb)
  replace RD_d0 := Aside0.mk (RD_d0.out.below hb)
  replace RD_d1 := Aside0.mk (RD_d1.out.below hb)
  replace RD_c0 := Aside0.mk (RD_c0.out.below hb)
  replace RD_c1 := Aside0.mk (RD_c1.out.below hb)
  replace RD_n0 := Aside0.mk (RD_n0.out.below hb)
  replace RD_n1 := Aside0.mk (RD_n1.out.below hb)
  replace RD_r0 := Aside0.mk (RD_r0.out.below hb)
  replace RD_r1 := Aside0.mk (RD_r1.out.below hb)
  replace BW := Aside0.mk (below_then BW.out BW.out.size hb)
  clear hb r0 r1
  have q46 : (v45.alloc (Obj.cells #[.slice Aq sq.length kq, .slice A'q dq.length k'q] 24)).cell? ⟨v45.heap.size, 1, none⟩ = some (.slice A'q dq.length k'q) := (blk_cell (blk_fold v45 [Obj.cells #[.slice Aq sq.length kq, .slice A'q dq.length k'q] 24] 0 _ rfl) 1).trans rfl
  have q47 : (v45.alloc (Obj.cells #[.slice Aq sq.length kq, .slice A'q dq.length k'q] 24)).cell? ⟨w.heap.size, 1, none⟩ = some (.slice A1 a2.length c1) := (blk_cell (blk_below BX_a.out (below_fold v45 [Obj.cells #[.slice Aq sq.length kq, .slice A'q dq.length k'q] 24])) 1).trans rfl
  obtain ⟨u48, hu48⟩ : ∃ u, (v45.alloc (Obj.cells #[.slice Aq sq.length kq, .slice A'q dq.length k'q] 24)) = u := ⟨_, rfl⟩
  have hbu48 : Below v45.heap.size v45 u48 := by rw [← hu48]; exact below_fold v45 [Obj.cells #[.slice Aq sq.length kq, .slice A'q dq.length k'q] 24]
  have BX_q : Aside0 (u48.heap[v45.heap.size]? = some (.cells #[.slice Aq sq.length kq, .slice A'q dq.length k'q] 24 (0, 0))) := ⟨by rw [← hu48]; exact blk_fold v45 [Obj.cells #[.slice Aq sq.length kq, .slice A'q dq.length k'q] 24] 0 _ rfl⟩
  have Hu48 := Aside0.mk hu48
  replace BX_a := Aside0.mk (blk_below BX_a.out hbu48)
  replace BX_b := Aside0.mk (blk_below BX_b.out hbu48)
  replace BX_s := Aside0.mk (blk_below BX_s.out hbu48)
  replace BX_t := Aside0.mk (blk_below BX_t.out hbu48)
  replace BX_d := Aside0.mk (blk_below BX_d.out hbu48)
  replace BX_c := Aside0.mk (blk_below BX_c.out hbu48)
  replace BX_n := Aside0.mk (blk_below BX_n.out hbu48)
  replace BX_r := Aside0.mk (blk_below BX_r.out hbu48)
  replace RD_a0 := Aside0.mk (RD_a0.out.below hbu48)
  replace RD_a1 := Aside0.mk (RD_a1.out.below hbu48)
  replace RD_b0 := Aside0.mk (RD_b0.out.below hbu48)
  replace RD_b1 := Aside0.mk (RD_b1.out.below hbu48)
  replace RD_s0 := Aside0.mk (RD_s0.out.below hbu48)
  replace RD_s1 := Aside0.mk (RD_s1.out.below hbu48)
  replace RD_o := Aside0.mk (RD_o.out.below hbu48)
  replace RD_t0 := Aside0.mk (RD_t0.out.below hbu48)
  replace RD_t1 := Aside0.mk (RD_t1.out.below hbu48)
  replace RD_d0 := Aside0.mk (RD_d0.out.below hbu48)
  replace RD_d1 := Aside0.mk (RD_d1.out.below hbu48)
  replace RD_c0 := Aside0.mk (RD_c0.out.below hbu48)
  replace RD_c1 := Aside0.mk (RD_c1.out.below hbu48)
  replace RD_n0 := Aside0.mk (RD_n0.out.below hbu48)
  replace RD_n1 := Aside0.mk (RD_n1.out.below hbu48)
  replace RD_r0 := Aside0.mk (RD_r0.out.below hbu48)
  replace RD_r1 := Aside0.mk (RD_r1.out.below hbu48)
  replace RD_q0 := Aside0.mk (RD_q0.out.below hbu48)
  replace RD_q1 := Aside0.mk (RD_q1.out.below hbu48)
  replace BW := Aside0.mk (below_then BW.out BW.out.size hbu48)
  clear hbu48 hu48
  go_wp2_with fail
  rw [Hu48.out]
  clear q46 q47
  clear Hu48
  go_loopg [20] (a2.length) (fun g i wr => ∃ k : Nat, i = .int .i64 k ∧ Aside0 (Below u48.heap.size u48 wr) ∧ Aside0 (k ≤ a2.length ∧ g = a2.length - k))
  case atStart => exact ⟨0, rfl, ⟨Below.refl _ _⟩, ⟨by omega, by omega⟩⟩
  case round =>
    obtain ⟨k, rfl, hbx, HA⟩ := hrel
    obtain ⟨hk, hg⟩ := HA.out
    obtain ⟨v99, rfl⟩ : ∃ v99, v99 = wr := ⟨_, rfl⟩
    have hb := hbx.out
    replace BX_a := Aside0.mk (blk_below BX_a.out hb)
    replace BX_b := Aside0.mk (blk_below BX_b.out hb)
    replace BX_s := Aside0.mk (blk_below BX_s.out hb)
    replace BX_t := Aside0.mk (blk_below BX_t.out hb)
    replace BX_d := Aside0.mk (blk_below BX_d.out hb)
    replace BX_c := Aside0.mk (blk_below BX_c.out hb)
    replace BX_n := Aside0.mk (blk_below BX_n.out hb)
    replace BX_r := Aside0.mk (blk_below BX_r.out hb)
    replace BX_q := Aside0.mk (blk_below BX_q.out hb)
    replace RD_a0 := Aside0.mk (RD_a0.out.below hb)
    replace RD_a1 := Aside0.mk (RD_a1.out.below hb)
    replace RD_b0 := Aside0.mk (RD_b0.out.below hb)
    replace RD_b1 := Aside0.mk (RD_b1.out.below hb)
    replace RD_s0 := Aside0.mk (RD_s0.out.below hb)
    replace RD_s1 := Aside0.mk (RD_s1.out.below hb)
    replace RD_o := Aside0.mk (RD_o.out.below hb)
    replace RD_t0 := Aside0.mk (RD_t0.out.below hb)
    replace RD_t1 := Aside0.mk (RD_t1.out.below hb)
    replace RD_d0 := Aside0.mk (RD_d0.out.below hb)
    replace RD_d1 := Aside0.mk (RD_d1.out.below hb)
    replace RD_c0 := Aside0.mk (RD_c0.out.below hb)
    replace RD_c1 := Aside0.mk (RD_c1.out.below hb)
    replace RD_n0 := Aside0.mk (RD_n0.out.below hb)
    replace RD_n1 := Aside0.mk (RD_n1.out.below hb)
    replace RD_r0 := Aside0.mk (RD_r0.out.below hb)
    replace RD_r1 := Aside0.mk (RD_r1.out.below hb)
    replace RD_q0 := Aside0.mk (RD_q0.out.below hb)
    replace RD_q1 := Aside0.mk (RD_q1.out.below hb)
    replace BW := Aside0.mk (below_then BW.out BW.out.size hb)
    clear hb HA
    have l64 := L64.out
    by_cases hlt : k < a2.length
    case pos =>
      have cc1 : decide ((k : Int) < (a2.length : Int)) = true := by simpa using hlt
      have cc2 : decide (k < a2.length) = true := by simpa using hlt
      have k1 : k < dq.length := by have := LQ.out; omega
      have hh := HL.out k hlt
      obtain ⟨ar, rfl, hcx⟩ := Kd.at_int RD_q1.out.c.1 (k : Int) (by omega) (by omega)
      obtain ⟨aa, rfl, hcy⟩ := Kd.at_int RD_a1.out.c.1 (k : Int) (by omega) (by omega)
      simp only [Int.toNat_natCast] at hcx hcy
      obtain ⟨x, hxe⟩ : ∃ x, rd dq k = x := ⟨_, rfl⟩
      obtain ⟨y, hye⟩ : ∃ x, rd a2 k = x := ⟨_, rfl⟩
      rw [hxe] at hcx hh
      rw [hye] at hcy hh
      have qq_q1 : v99.cell? ⟨v45.heap.size, 1, none⟩ = some (.slice (some ar) dq.length k'q) := (blk_cell BX_q.out 1).trans rfl
      have qq_a1 : v99.cell? ⟨w.heap.size, 1, none⟩ = some (.slice (some aa) a2.length c1) := (blk_cell BX_a.out 1).trans rfl
      have d1 : decide (y < 0) = false := by simp; omega
      have d2 : decide (y < x) = false := by simp; omega
      have hwi : IntKind.i64.wrap ((k : Int) + 1) = ((k + 1 : Nat) : Int) := by rw [wrap_in _ ⟨by omega, by omega⟩]; omega
      have G := Aside0.mk (And.intro hg hlt)
      clear hxe hye hk hg hh l64
      go_wp2_with fail
      go_quiet (fail)
      go_wp2_with fail
      go_roundg (a2.length - (k + 1))
      case measure => have := G.out; omega
      case rel => exact ⟨k + 1, by first | rfl | simp, ⟨pw_below_drewN hbx.out _⟩, ⟨by have := G.out; omega, rfl⟩⟩
    case neg =>
      have cc1 : decide ((k : Int) < (a2.length : Int)) = false := by simpa using hlt
      have cc2 : decide (k < a2.length) = false := by simpa using hlt
      have qq_a1 : v99.cell? ⟨w.heap.size, 1, none⟩ = some (.slice A1 a2.length c1) := (blk_cell BX_a.out 1).trans rfl
      clear hk hg hlt l64
      by_cases hd : ed = 0
      case neg =>
        have zd : (ed != 0) = true := by simpa using hd
        clear hd
        have q49 : v99.cell? ⟨v17.heap.size, 0, none⟩ = some (.slice As ss.length ks) := (blk_cell BX_s.out 0).trans rfl
        have q50 : v99.cell? ⟨v17.heap.size, 1, none⟩ = some (.slice A's ds.length k's) := (blk_cell BX_s.out 1).trans rfl
        have q51 : v99.cell? ⟨v21.heap.size, 0, none⟩ = some (.slice At st.length kt) := (blk_cell BX_t.out 0).trans rfl
        have q52 : v99.cell? ⟨v21.heap.size, 1, none⟩ = some (.slice A't dt.length k't) := (blk_cell BX_t.out 1).trans rfl
        go_wp2_with fail
        clear q49 q50 q51 q52
        refine (same_r (b := true) E2.out RD_s0.out RD_s1.out RD_t0.out RD_t1.out).mono ?_
        rintro e v53 ⟨rfl, hb⟩
        replace BX_a := Aside0.mk (blk_below BX_a.out hb)
        replace BX_b := Aside0.mk (blk_below BX_b.out hb)
        replace BX_s := Aside0.mk (blk_below BX_s.out hb)
        replace BX_t := Aside0.mk (blk_below BX_t.out hb)
        replace BX_d := Aside0.mk (blk_below BX_d.out hb)
        replace BX_c := Aside0.mk (blk_below BX_c.out hb)
        replace BX_n := Aside0.mk (blk_below BX_n.out hb)
        replace BX_r := Aside0.mk (blk_below BX_r.out hb)
        replace BX_q := Aside0.mk (blk_below BX_q.out hb)
        replace RD_a0 := Aside0.mk (RD_a0.out.below hb)
        replace RD_a1 := Aside0.mk (RD_a1.out.below hb)
        replace RD_b0 := Aside0.mk (RD_b0.out.below hb)
        replace RD_b1 := Aside0.mk (RD_b1.out.below hb)
        replace RD_s0 := Aside0.mk (RD_s0.out.below hb)
        replace RD_s1 := Aside0.mk (RD_s1.out.below hb)
        replace RD_o := Aside0.mk (RD_o.out.below hb)
        replace RD_t0 := Aside0.mk (RD_t0.out.below hb)
        replace RD_t1 := Aside0.mk (RD_t1.out.below hb)
        replace RD_d0 := Aside0.mk (RD_d0.out.below hb)
        replace RD_d1 := Aside0.mk (RD_d1.out.below hb)
        replace RD_c0 := Aside0.mk (RD_c0.out.below hb)
        replace RD_c1 := Aside0.mk (RD_c1.out.below hb)
        replace RD_n0 := Aside0.mk (RD_n0.out.below hb)
        replace RD_n1 := Aside0.mk (RD_n1.out.below hb)
        replace RD_r0 := Aside0.mk (RD_r0.out.below hb)
        replace RD_r1 := Aside0.mk (RD_r1.out.below hb)
        replace RD_q0 := Aside0.mk (RD_q0.out.below hb)
        replace RD_q1 := Aside0.mk (RD_q1.out.below hb)
        replace BW := Aside0.mk (below_then BW.out BW.out.size hb)
        clear hb
        go_wp2_with fail
        go_ret
        exact ⟨rfl, BW.out⟩
      case pos =>
        by_cases hc : ec = 0
        case neg =>
          have zd : (ed != 0) = false := by simpa using hd
          have zc : (ec != 0) = true := by simpa using hc
          clear hd hc
          have q49 : v99.cell? ⟨v17.heap.size, 0, none⟩ = some (.slice As ss.length ks) := (blk_cell BX_s.out 0).trans rfl
          have q50 : v99.cell? ⟨v17.heap.size, 1, none⟩ = some (.slice A's ds.length k's) := (blk_cell BX_s.out 1).trans rfl
          have q51 : v99.cell? ⟨v21.heap.size, 0, none⟩ = some (.slice At st.length kt) := (blk_cell BX_t.out 0).trans rfl
          have q52 : v99.cell? ⟨v21.heap.size, 1, none⟩ = some (.slice A't dt.length k't) := (blk_cell BX_t.out 1).trans rfl
          go_wp2_with fail
          clear q49 q50 q51 q52
          refine (same_r (b := true) E2.out RD_s0.out RD_s1.out RD_t0.out RD_t1.out).mono ?_
          rintro e v53 ⟨rfl, hb⟩
          replace BX_a := Aside0.mk (blk_below BX_a.out hb)
          replace BX_b := Aside0.mk (blk_below BX_b.out hb)
          replace BX_s := Aside0.mk (blk_below BX_s.out hb)
          replace BX_t := Aside0.mk (blk_below BX_t.out hb)
          replace BX_d := Aside0.mk (blk_below BX_d.out hb)
          replace BX_c := Aside0.mk (blk_below BX_c.out hb)
          replace BX_n := Aside0.mk (blk_below BX_n.out hb)
          replace BX_r := Aside0.mk (blk_below BX_r.out hb)
          replace BX_q := Aside0.mk (blk_below BX_q.out hb)
          replace RD_a0 := Aside0.mk (RD_a0.out.below hb)
          replace RD_a1 := Aside0.mk (RD_a1.out.below hb)
          replace RD_b0 := Aside0.mk (RD_b0.out.below hb)
          replace RD_b1 := Aside0.mk (RD_b1.out.below hb)
          replace RD_s0 := Aside0.mk (RD_s0.out.below hb)
          replace RD_s1 := Aside0.mk (RD_s1.out.below hb)
          replace RD_o := Aside0.mk (RD_o.out.below hb)
          replace RD_t0 := Aside0.mk (RD_t0.out.below hb)
          replace RD_t1 := Aside0.mk (RD_t1.out.below hb)
          replace RD_d0 := Aside0.mk (RD_d0.out.below hb)
          replace RD_d1 := Aside0.mk (RD_d1.out.below hb)
          replace RD_c0 := Aside0.mk (RD_c0.out.below hb)
          replace RD_c1 := Aside0.mk (RD_c1.out.below hb)
          replace RD_n0 := Aside0.mk (RD_n0.out.below hb)
          replace RD_n1 := Aside0.mk (RD_n1.out.below hb)
          replace RD_r0 := Aside0.mk (RD_r0.out.below hb)
          replace RD_r1 := Aside0.mk (RD_r1.out.below hb)
          replace RD_q0 := Aside0.mk (RD_q0.out.below hb)
          replace RD_q1 := Aside0.mk (RD_q1.out.below hb)
          replace BW := Aside0.mk (below_then BW.out BW.out.size hb)
          clear hb
          go_wp2_with fail
          go_ret
          exact ⟨rfl, BW.out⟩
        case pos =>
          have zd : (ed != 0) = false := by simpa using hd
          have zc : (ec != 0) = false := by simpa using hc
          have zn : (en == 0) = true := by simpa using (E3.out hd hc).1
          have E3b := Aside0.mk (E3.out hd hc).2
          clear hd hc
          have q49 : v99.cell? ⟨v17.heap.size, 0, none⟩ = some (.slice As ss.length ks) := (blk_cell BX_s.out 0).trans rfl
          have q50 : v99.cell? ⟨v17.heap.size, 1, none⟩ = some (.slice A's ds.length k's) := (blk_cell BX_s.out 1).trans rfl
          have q51 : v99.cell? ⟨v21.heap.size, 0, none⟩ = some (.slice At st.length kt) := (blk_cell BX_t.out 0).trans rfl
          have q52 : v99.cell? ⟨v21.heap.size, 1, none⟩ = some (.slice A't dt.length k't) := (blk_cell BX_t.out 1).trans rfl
          go_wp2_with fail
          clear q49 q50 q51 q52
          refine (same_r (b := true) E2.out RD_s0.out RD_s1.out RD_t0.out RD_t1.out).mono ?_
          rintro e v53 ⟨rfl, hb⟩
          replace BX_a := Aside0.mk (blk_below BX_a.out hb)
          replace BX_b := Aside0.mk (blk_below BX_b.out hb)
          replace BX_s := Aside0.mk (blk_below BX_s.out hb)
          replace BX_t := Aside0.mk (blk_below BX_t.out hb)
          replace BX_d := Aside0.mk (blk_below BX_d.out hb)
          replace BX_c := Aside0.mk (blk_below BX_c.out hb)
          replace BX_n := Aside0.mk (blk_below BX_n.out hb)
          replace BX_r := Aside0.mk (blk_below BX_r.out hb)
          replace BX_q := Aside0.mk (blk_below BX_q.out hb)
          replace RD_a0 := Aside0.mk (RD_a0.out.below hb)
          replace RD_a1 := Aside0.mk (RD_a1.out.below hb)
          replace RD_b0 := Aside0.mk (RD_b0.out.below hb)
          replace RD_b1 := Aside0.mk (RD_b1.out.below hb)
          replace RD_s0 := Aside0.mk (RD_s0.out.below hb)
          replace RD_s1 := Aside0.mk (RD_s1.out.below hb)
          replace RD_o := Aside0.mk (RD_o.out.below hb)
          replace RD_t0 := Aside0.mk (RD_t0.out.below hb)
          replace RD_t1 := Aside0.mk (RD_t1.out.below hb)
          replace RD_d0 := Aside0.mk (RD_d0.out.below hb)
          replace RD_d1 := Aside0.mk (RD_d1.out.below hb)
          replace RD_c0 := Aside0.mk (RD_c0.out.below hb)
          replace RD_c1 := Aside0.mk (RD_c1.out.below hb)
          replace RD_n0 := Aside0.mk (RD_n0.out.below hb)
          replace RD_n1 := Aside0.mk (RD_n1.out.below hb)
          replace RD_r0 := Aside0.mk (RD_r0.out.below hb)
          replace RD_r1 := Aside0.mk (RD_r1.out.below hb)
          replace RD_q0 := Aside0.mk (RD_q0.out.below hb)
          replace RD_q1 := Aside0.mk (RD_q1.out.below hb)
          replace BW := Aside0.mk (below_then BW.out BW.out.size hb)
          clear hb
          have q54 : v53.cell? ⟨v27.heap.size, 0, none⟩ = some (.slice Ad sd.length kd) := (blk_cell BX_d.out 0).trans rfl
          have q55 : v53.cell? ⟨v27.heap.size, 1, none⟩ = some (.slice A'd dd.length k'd) := (blk_cell BX_d.out 1).trans rfl
          have q56 : v53.cell? ⟨v37.heap.size, 0, none⟩ = some (.slice An sn.length kn) := (blk_cell BX_n.out 0).trans rfl
          have q57 : v53.cell? ⟨v37.heap.size, 1, none⟩ = some (.slice A'n dn.length k'n) := (blk_cell BX_n.out 1).trans rfl
          go_wp2_with fail
          clear q54 q55 q56 q57
          refine (same_r (b := true) E3b.out RD_d0.out RD_d1.out RD_n0.out RD_n1.out).mono ?_
          rintro e v58 ⟨rfl, hb⟩
          replace BX_a := Aside0.mk (blk_below BX_a.out hb)
          replace BX_b := Aside0.mk (blk_below BX_b.out hb)
          replace BX_s := Aside0.mk (blk_below BX_s.out hb)
          replace BX_t := Aside0.mk (blk_below BX_t.out hb)
          replace BX_d := Aside0.mk (blk_below BX_d.out hb)
          replace BX_c := Aside0.mk (blk_below BX_c.out hb)
          replace BX_n := Aside0.mk (blk_below BX_n.out hb)
          replace BX_r := Aside0.mk (blk_below BX_r.out hb)
          replace BX_q := Aside0.mk (blk_below BX_q.out hb)
          replace RD_a0 := Aside0.mk (RD_a0.out.below hb)
          replace RD_a1 := Aside0.mk (RD_a1.out.below hb)
          replace RD_b0 := Aside0.mk (RD_b0.out.below hb)
          replace RD_b1 := Aside0.mk (RD_b1.out.below hb)
          replace RD_s0 := Aside0.mk (RD_s0.out.below hb)
          replace RD_s1 := Aside0.mk (RD_s1.out.below hb)
          replace RD_o := Aside0.mk (RD_o.out.below hb)
          replace RD_t0 := Aside0.mk (RD_t0.out.below hb)
          replace RD_t1 := Aside0.mk (RD_t1.out.below hb)
          replace RD_d0 := Aside0.mk (RD_d0.out.below hb)
          replace RD_d1 := Aside0.mk (RD_d1.out.below hb)
          replace RD_c0 := Aside0.mk (RD_c0.out.below hb)
          replace RD_c1 := Aside0.mk (RD_c1.out.below hb)
          replace RD_n0 := Aside0.mk (RD_n0.out.below hb)
          replace RD_n1 := Aside0.mk (RD_n1.out.below hb)
          replace RD_r0 := Aside0.mk (RD_r0.out.below hb)
          replace RD_r1 := Aside0.mk (RD_r1.out.below hb)
          replace RD_q0 := Aside0.mk (RD_q0.out.below hb)
          replace RD_q1 := Aside0.mk (RD_q1.out.below hb)
          replace BW := Aside0.mk (below_then BW.out BW.out.size hb)
          clear hb
          go_wp2_with fail
          go_ret
          exact ⟨rfl, BW.out⟩
end Go.Proofs.Ytpnigmcpifilmaa.P
