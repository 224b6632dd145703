/- The walk of ElemTurns. -/
import Derived.Test.YtpnigmcpifilmaaA19
namespace Go.Proofs.Ytpnigmcpifilmaa.P
open Go.RowKit Go.Shelf Go.Proofs.YtpnigmcpifilmaaW.PrintWords Go.Proofs.YtpnigmcpifilmaaW.PrintLast Go.Proofs.YtpnigmcpifilmaaW.PrintMore
set_option linter.unusedVariables false
set_option linter.unusedSimpArgs false
set_option maxHeartbeats 4000000
set_option maxRecDepth 100000 in
theorem turns_bad1 (A0 : Option Addr) (c0 : Nat) (a1 : List Int) (A1 : Option Addr) (c1 : Nat) (a2 : List Int) (A2 : Option Addr) (c2 : Nat) (b1 : List Int) (A3 : Option Addr) (c3 : Nat) (b2 : List Int) (w : World)
    (r0 : Rd w (.slice A0 a1.length c0) a1) (r1 : Rd w (.slice A1 a2.length c1) a2) (i1 : allI a2) (r2 : Rd w (.slice A2 b1.length c2) b1) (r3 : Rd w (.slice A3 b2.length c3) b2) (i2 : allI b2) (g : fewB a1 a2 = false) :
    Calls Try.prog 3 #[.agg #[.slice A0 a1.length c0, .slice A1 a2.length c1], .agg #[.slice A2 b1.length c2, .slice A3 b2.length c3]] w fun e w' => e = .returned (.bool true) ∧ Below w.heap.size w w' := by
  have G1 := Aside0.mk g
  clear g 
  have RD_a0 := Aside0.mk r0
  have RD_a1 := Aside0.mk r1
  have RD_b0 := Aside0.mk r2
  have RD_b1 := Aside0.mk r3
  have I1 := Aside0.mk i1
  have I2 := Aside0.mk i2
  clear r0 r1 r2 r3 i1 i2
  have BW : Aside0 (Below w.heap.size w w) := ⟨Below.refl _ _⟩
  go_enter Try.func3, Try.ntmps3
  obtain ⟨u1, hu1⟩ : ∃ u, ((w.alloc (Obj.cells #[.slice A0 a1.length c0, .slice A1 a2.length c1] 24)).alloc (Obj.cells #[.slice A2 b1.length c2, .slice A3 b2.length c3] 24)) = u := ⟨_, rfl⟩
  have hbu1 : Below w.heap.size w u1 := by rw [← hu1]; exact below_fold w [Obj.cells #[.slice A0 a1.length c0, .slice A1 a2.length c1] 24, Obj.cells #[.slice A2 b1.length c2, .slice A3 b2.length c3] 24]
  have BX_a : Aside0 (u1.heap[w.heap.size]? = some (.cells #[.slice A0 a1.length c0, .slice A1 a2.length c1] 24 (0, 0))) := ⟨by rw [← hu1]; exact blk_fold w [Obj.cells #[.slice A0 a1.length c0, .slice A1 a2.length c1] 24, Obj.cells #[.slice A2 b1.length c2, .slice A3 b2.length c3] 24] 0 _ rfl⟩
  have BX_b : Aside0 (u1.heap[w.heap.size + 1]? = some (.cells #[.slice A2 b1.length c2, .slice A3 b2.length c3] 24 (0, 0))) := ⟨by rw [← hu1]; exact blk_fold w [Obj.cells #[.slice A0 a1.length c0, .slice A1 a2.length c1] 24, Obj.cells #[.slice A2 b1.length c2, .slice A3 b2.length c3] 24] 1 _ rfl⟩
  have Hu1 := Aside0.mk hu1
  replace RD_a0 := Aside0.mk (RD_a0.out.below hbu1)
  replace RD_a1 := Aside0.mk (RD_a1.out.below hbu1)
  replace RD_b0 := Aside0.mk (RD_b0.out.below hbu1)
  replace RD_b1 := Aside0.mk (RD_b1.out.below hbu1)
  replace BW := Aside0.mk (below_then BW.out BW.out.size hbu1)
  clear hbu1 hu1
  go_wp2_with fail
  rw [Hu1.out]
  clear Hu1
  refine (awake04 _).mono ?_
  rintro e v2 ⟨rfl, hb⟩
  replace BX_a := Aside0.mk (blk_below BX_a.out hb)
  replace BX_b := Aside0.mk (blk_below BX_b.out hb)
  replace RD_a0 := Aside0.mk (RD_a0.out.below hb)
  replace RD_a1 := Aside0.mk (RD_a1.out.below hb)
  replace RD_b0 := Aside0.mk (RD_b0.out.below hb)
  replace RD_b1 := Aside0.mk (RD_b1.out.below hb)
  replace BW := Aside0.mk (below_then BW.out BW.out.size hb)
  clear hb
  have q3 : v2.cell? ⟨w.heap.size, 0, none⟩ = some (.slice A0 a1.length c0) := (blk_cell BX_a.out 0).trans rfl
  have q4 : v2.cell? ⟨w.heap.size, 1, none⟩ = some (.slice A1 a2.length c1) := (blk_cell BX_a.out 1).trans rfl
  go_wp2_with fail
  clear q3 q4
  refine (few_r (b := false) (s := a1) (d := a2) G1.out).mono ?_
  rintro e v5 ⟨rfl, hb⟩
  replace BX_a := Aside0.mk (blk_below BX_a.out hb)
  replace BX_b := Aside0.mk (blk_below BX_b.out hb)
  replace RD_a0 := Aside0.mk (RD_a0.out.below hb)
  replace RD_a1 := Aside0.mk (RD_a1.out.below hb)
  replace RD_b0 := Aside0.mk (RD_b0.out.below hb)
  replace RD_b1 := Aside0.mk (RD_b1.out.below hb)
  replace BW := Aside0.mk (below_then BW.out BW.out.size hb)
  clear hb
  go_wp2_with fail
  go_ret
  exact ⟨rfl, BW.out⟩
set_option maxRecDepth 100000 in
theorem turns_bad2 (A0 : Option Addr) (c0 : Nat) (a1 : List Int) (A1 : Option Addr) (c1 : Nat) (a2 : List Int) (A2 : Option Addr) (c2 : Nat) (b1 : List Int) (A3 : Option Addr) (c3 : Nat) (b2 : List Int) (w : World)
    (r0 : Rd w (.slice A0 a1.length c0) a1) (r1 : Rd w (.slice A1 a2.length c1) a2) (i1 : allI a2) (r2 : Rd w (.slice A2 b1.length c2) b1) (r3 : Rd w (.slice A3 b2.length c3) b2) (i2 : allI b2) (g1 : fewB a1 a2 = true) (g : fewB b1 b2 = false) :
    Calls Try.prog 3 #[.agg #[.slice A0 a1.length c0, .slice A1 a2.length c1], .agg #[.slice A2 b1.length c2, .slice A3 b2.length c3]] w fun e w' => e = .returned (.bool true) ∧ Below w.heap.size w w' := by
  have G1 := Aside0.mk g1
  have G2 := Aside0.mk g
  clear g g1
  have RD_a0 := Aside0.mk r0
  have RD_a1 := Aside0.mk r1
  have RD_b0 := Aside0.mk r2
  have RD_b1 := Aside0.mk r3
  have I1 := Aside0.mk i1
  have I2 := Aside0.mk i2
  clear r0 r1 r2 r3 i1 i2
  have BW : Aside0 (Below w.heap.size w w) := ⟨Below.refl _ _⟩
  go_enter Try.func3, Try.ntmps3
  obtain ⟨u1, hu1⟩ : ∃ u, ((w.alloc (Obj.cells #[.slice A0 a1.length c0, .slice A1 a2.length c1] 24)).alloc (Obj.cells #[.slice A2 b1.length c2, .slice A3 b2.length c3] 24)) = u := ⟨_, rfl⟩
  have hbu1 : Below w.heap.size w u1 := by rw [← hu1]; exact below_fold w [Obj.cells #[.slice A0 a1.length c0, .slice A1 a2.length c1] 24, Obj.cells #[.slice A2 b1.length c2, .slice A3 b2.length c3] 24]
  have BX_a : Aside0 (u1.heap[w.heap.size]? = some (.cells #[.slice A0 a1.length c0, .slice A1 a2.length c1] 24 (0, 0))) := ⟨by rw [← hu1]; exact blk_fold w [Obj.cells #[.slice A0 a1.length c0, .slice A1 a2.length c1] 24, Obj.cells #[.slice A2 b1.length c2, .slice A3 b2.length c3] 24] 0 _ rfl⟩
  have BX_b : Aside0 (u1.heap[w.heap.size + 1]? = some (.cells #[.slice A2 b1.length c2, .slice A3 b2.length c3] 24 (0, 0))) := ⟨by rw [← hu1]; exact blk_fold w [Obj.cells #[.slice A0 a1.length c0, .slice A1 a2.length c1] 24, Obj.cells #[.slice A2 b1.length c2, .slice A3 b2.length c3] 24] 1 _ rfl⟩
  have Hu1 := Aside0.mk hu1
  replace RD_a0 := Aside0.mk (RD_a0.out.below hbu1)
  replace RD_a1 := Aside0.mk (RD_a1.out.below hbu1)
  replace RD_b0 := Aside0.mk (RD_b0.out.below hbu1)
  replace RD_b1 := Aside0.mk (RD_b1.out.below hbu1)
  replace BW := Aside0.mk (below_then BW.out BW.out.size hbu1)
  clear hbu1 hu1
  go_wp2_with fail
  rw [Hu1.out]
  clear Hu1
  refine (awake04 _).mono ?_
  rintro e v2 ⟨rfl, hb⟩
  replace BX_a := Aside0.mk (blk_below BX_a.out hb)
  replace BX_b := Aside0.mk (blk_below BX_b.out hb)
  replace RD_a0 := Aside0.mk (RD_a0.out.below hb)
  replace RD_a1 := Aside0.mk (RD_a1.out.below hb)
  replace RD_b0 := Aside0.mk (RD_b0.out.below hb)
  replace RD_b1 := Aside0.mk (RD_b1.out.below hb)
  replace BW := Aside0.mk (below_then BW.out BW.out.size hb)
  clear hb
  have q3 : v2.cell? ⟨w.heap.size, 0, none⟩ = some (.slice A0 a1.length c0) := (blk_cell BX_a.out 0).trans rfl
  have q4 : v2.cell? ⟨w.heap.size, 1, none⟩ = some (.slice A1 a2.length c1) := (blk_cell BX_a.out 1).trans rfl
  go_wp2_with fail
  clear q3 q4
  refine (few_r (b := true) (s := a1) (d := a2) G1.out).mono ?_
  rintro e v5 ⟨rfl, hb⟩
  replace BX_a := Aside0.mk (blk_below BX_a.out hb)
  replace BX_b := Aside0.mk (blk_below BX_b.out hb)
  replace RD_a0 := Aside0.mk (RD_a0.out.below hb)
  replace RD_a1 := Aside0.mk (RD_a1.out.below hb)
  replace RD_b0 := Aside0.mk (RD_b0.out.below hb)
  replace RD_b1 := Aside0.mk (RD_b1.out.below hb)
  replace BW := Aside0.mk (below_then BW.out BW.out.size hb)
  clear hb
  have q6 : v5.cell? ⟨w.heap.size + 1, 0, none⟩ = some (.slice A2 b1.length c2) := (blk_cell BX_b.out 0).trans rfl
  have q7 : v5.cell? ⟨w.heap.size + 1, 1, none⟩ = some (.slice A3 b2.length c3) := (blk_cell BX_b.out 1).trans rfl
  go_wp2_with fail
  clear q6 q7
  refine (few_r (b := false) (s := b1) (d := b2) G2.out).mono ?_
  rintro e v8 ⟨rfl, hb⟩
  replace BX_a := Aside0.mk (blk_below BX_a.out hb)
  replace BX_b := Aside0.mk (blk_below BX_b.out hb)
  replace RD_a0 := Aside0.mk (RD_a0.out.below hb)
  replace RD_a1 := Aside0.mk (RD_a1.out.below hb)
  replace RD_b0 := Aside0.mk (RD_b0.out.below hb)
  replace RD_b1 := Aside0.mk (RD_b1.out.below hb)
  replace BW := Aside0.mk (below_then BW.out BW.out.size hb)
  clear hb
  go_wp2_with fail
  go_ret
  exact ⟨rfl, BW.out⟩
set_option maxRecDepth 100000 in
theorem turns_bad3 (A0 : Option Addr) (c0 : Nat) (a1 : List Int) (A1 : Option Addr) (c1 : Nat) (a2 : List Int) (A2 : Option Addr) (c2 : Nat) (b1 : List Int) (A3 : Option Addr) (c3 : Nat) (b2 : List Int) (w : World)
    (r0 : Rd w (.slice A0 a1.length c0) a1) (r1 : Rd w (.slice A1 a2.length c1) a2) (i1 : allI a2) (r2 : Rd w (.slice A2 b1.length c2) b1) (r3 : Rd w (.slice A3 b2.length c3) b2) (i2 : allI b2) (g1 : fewB a1 a2 = true) (g2 : fewB b1 b2 = true) (g : tOk a1 a2 = false) :
    Calls Try.prog 3 #[.agg #[.slice A0 a1.length c0, .slice A1 a2.length c1], .agg #[.slice A2 b1.length c2, .slice A3 b2.length c3]] w fun e w' => e = .returned (.bool true) ∧ Below w.heap.size w w' := by
  have G1 := Aside0.mk g1
  have G2 := Aside0.mk g2
  have G3 := Aside0.mk g
  clear g g1 g2
  have RD_a0 := Aside0.mk r0
  have RD_a1 := Aside0.mk r1
  have RD_b0 := Aside0.mk r2
  have RD_b1 := Aside0.mk r3
  have I1 := Aside0.mk i1
  have I2 := Aside0.mk i2
  clear r0 r1 r2 r3 i1 i2
  have BW : Aside0 (Below w.heap.size w w) := ⟨Below.refl _ _⟩
  go_enter Try.func3, Try.ntmps3
  obtain ⟨u1, hu1⟩ : ∃ u, ((w.alloc (Obj.cells #[.slice A0 a1.length c0, .slice A1 a2.length c1] 24)).alloc (Obj.cells #[.slice A2 b1.length c2, .slice A3 b2.length c3] 24)) = u := ⟨_, rfl⟩
  have hbu1 : Below w.heap.size w u1 := by rw [← hu1]; exact below_fold w [Obj.cells #[.slice A0 a1.length c0, .slice A1 a2.length c1] 24, Obj.cells #[.slice A2 b1.length c2, .slice A3 b2.length c3] 24]
  have BX_a : Aside0 (u1.heap[w.heap.size]? = some (.cells #[.slice A0 a1.length c0, .slice A1 a2.length c1] 24 (0, 0))) := ⟨by rw [← hu1]; exact blk_fold w [Obj.cells #[.slice A0 a1.length c0, .slice A1 a2.length c1] 24, Obj.cells #[.slice A2 b1.length c2, .slice A3 b2.length c3] 24] 0 _ rfl⟩
  have BX_b : Aside0 (u1.heap[w.heap.size + 1]? = some (.cells #[.slice A2 b1.length c2, .slice A3 b2.length c3] 24 (0, 0))) := ⟨by rw [← hu1]; exact blk_fold w [Obj.cells #[.slice A0 a1.length c0, .slice A1 a2.length c1] 24, Obj.cells #[.slice A2 b1.length c2, .slice A3 b2.length c3] 24] 1 _ rfl⟩
  have Hu1 := Aside0.mk hu1
  replace RD_a0 := Aside0.mk (RD_a0.out.below hbu1)
  replace RD_a1 := Aside0.mk (RD_a1.out.below hbu1)
  replace RD_b0 := Aside0.mk (RD_b0.out.below hbu1)
  replace RD_b1 := Aside0.mk (RD_b1.out.below hbu1)
  replace BW := Aside0.mk (below_then BW.out BW.out.size hbu1)
  clear hbu1 hu1
  go_wp2_with fail
  rw [Hu1.out]
  clear Hu1
  refine (awake04 _).mono ?_
  rintro e v2 ⟨rfl, hb⟩
  replace BX_a := Aside0.mk (blk_below BX_a.out hb)
  replace BX_b := Aside0.mk (blk_below BX_b.out hb)
  replace RD_a0 := Aside0.mk (RD_a0.out.below hb)
  replace RD_a1 := Aside0.mk (RD_a1.out.below hb)
  replace RD_b0 := Aside0.mk (RD_b0.out.below hb)
  replace RD_b1 := Aside0.mk (RD_b1.out.below hb)
  replace BW := Aside0.mk (below_then BW.out BW.out.size hb)
  clear hb
  have q3 : v2.cell? ⟨w.heap.size, 0, none⟩ = some (.slice A0 a1.length c0) := (blk_cell BX_a.out 0).trans rfl
  have q4 : v2.cell? ⟨w.heap.size, 1, none⟩ = some (.slice A1 a2.length c1) := (blk_cell BX_a.out 1).trans rfl
  go_wp2_with fail
  clear q3 q4
  refine (few_r (b := true) (s := a1) (d := a2) G1.out).mono ?_
  rintro e v5 ⟨rfl, hb⟩
  replace BX_a := Aside0.mk (blk_below BX_a.out hb)
  replace BX_b := Aside0.mk (blk_below BX_b.out hb)
  replace RD_a0 := Aside0.mk (RD_a0.out.below hb)
  replace RD_a1 := Aside0.mk (RD_a1.out.below hb)
  replace RD_b0 := Aside0.mk (RD_b0.out.below hb)
  replace RD_b1 := Aside0.mk (RD_b1.out.below hb)
  replace BW := Aside0.mk (below_then BW.out BW.out.size hb)
  clear hb
  have q6 : v5.cell? ⟨w.heap.size + 1, 0, none⟩ = some (.slice A2 b1.length c2) := (blk_cell BX_b.out 0).trans rfl
  have q7 : v5.cell? ⟨w.heap.size + 1, 1, none⟩ = some (.slice A3 b2.length c3) := (blk_cell BX_b.out 1).trans rfl
  go_wp2_with fail
  clear q6 q7
  refine (few_r (b := true) (s := b1) (d := b2) G2.out).mono ?_
  rintro e v8 ⟨rfl, hb⟩
  replace BX_a := Aside0.mk (blk_below BX_a.out hb)
  replace BX_b := Aside0.mk (blk_below BX_b.out hb)
  replace RD_a0 := Aside0.mk (RD_a0.out.below hb)
  replace RD_a1 := Aside0.mk (RD_a1.out.below hb)
  replace RD_b0 := Aside0.mk (RD_b0.out.below hb)
  replace RD_b1 := Aside0.mk (RD_b1.out.below hb)
  replace BW := Aside0.mk (below_then BW.out BW.out.size hb)
  clear hb
  have q9 : v8.cell? ⟨w.heap.size, 0, none⟩ = some (.slice A0 a1.length c0) := (blk_cell BX_a.out 0).trans rfl
  have q10 : v8.cell? ⟨w.heap.size, 1, none⟩ = some (.slice A1 a2.length c1) := (blk_cell BX_a.out 1).trans rfl
  go_wp2_with fail
  clear q9 q10
  refine (tcheck_r (b := false) G3.out RD_a0.out).mono ?_
  rintro e v11 ⟨rfl, hb⟩
  replace BX_a := Aside0.mk (blk_below BX_a.out hb)
  replace BX_b := Aside0.mk (blk_below BX_b.out hb)
  replace RD_a0 := Aside0.mk (RD_a0.out.below hb)
  replace RD_a1 := Aside0.mk (RD_a1.out.below hb)
  replace RD_b0 := Aside0.mk (RD_b0.out.below hb)
  replace RD_b1 := Aside0.mk (RD_b1.out.below hb)
  replace BW := Aside0.mk (below_then BW.out BW.out.size hb)
  clear hb
  go_wp2_with fail
  go_ret
  exact ⟨rfl, BW.out⟩
set_option maxRecDepth 100000 in
theorem turns_bad4 (A0 : Option Addr) (c0 : Nat) (a1 : List Int) (A1 : Option Addr) (c1 : Nat) (a2 : List Int) (A2 : Option Addr) (c2 : Nat) (b1 : List Int) (A3 : Option Addr) (c3 : Nat) (b2 : List Int) (w : World)
    (r0 : Rd w (.slice A0 a1.length c0) a1) (r1 : Rd w (.slice A1 a2.length c1) a2) (i1 : allI a2) (r2 : Rd w (.slice A2 b1.length c2) b1) (r3 : Rd w (.slice A3 b2.length c3) b2) (i2 : allI b2) (g1 : fewB a1 a2 = true) (g2 : fewB b1 b2 = true) (g3 : tOk a1 a2 = true) (g : tOk b1 b2 = false) :
    Calls Try.prog 3 #[.agg #[.slice A0 a1.length c0, .slice A1 a2.length c1], .agg #[.slice A2 b1.length c2, .slice A3 b2.length c3]] w fun e w' => e = .returned (.bool true) ∧ Below w.heap.size w w' := by
  have G1 := Aside0.mk g1
  have G2 := Aside0.mk g2
  have G3 := Aside0.mk g3
  have G4 := Aside0.mk g
  clear g g1 g2 g3
  have RD_a0 := Aside0.mk r0
  have RD_a1 := Aside0.mk r1
  have RD_b0 := Aside0.mk r2
  have RD_b1 := Aside0.mk r3
  have I1 := Aside0.mk i1
  have I2 := Aside0.mk i2
  clear r0 r1 r2 r3 i1 i2
  have BW : Aside0 (Below w.heap.size w w) := ⟨Below.refl _ _⟩
  go_enter Try.func3, Try.ntmps3
  obtain ⟨u1, hu1⟩ : ∃ u, ((w.alloc (Obj.cells #[.slice A0 a1.length c0, .slice A1 a2.length c1] 24)).alloc (Obj.cells #[.slice A2 b1.length c2, .slice A3 b2.length c3] 24)) = u := ⟨_, rfl⟩
  have hbu1 : Below w.heap.size w u1 := by rw [← hu1]; exact below_fold w [Obj.cells #[.slice A0 a1.length c0, .slice A1 a2.length c1] 24, Obj.cells #[.slice A2 b1.length c2, .slice A3 b2.length c3] 24]
  have BX_a : Aside0 (u1.heap[w.heap.size]? = some (.cells #[.slice A0 a1.length c0, .slice A1 a2.length c1] 24 (0, 0))) := ⟨by rw [← hu1]; exact blk_fold w [Obj.cells #[.slice A0 a1.length c0, .slice A1 a2.length c1] 24, Obj.cells #[.slice A2 b1.length c2, .slice A3 b2.length c3] 24] 0 _ rfl⟩
  have BX_b : Aside0 (u1.heap[w.heap.size + 1]? = some (.cells #[.slice A2 b1.length c2, .slice A3 b2.length c3] 24 (0, 0))) := ⟨by rw [← hu1]; exact blk_fold w [Obj.cells #[.slice A0 a1.length c0, .slice A1 a2.length c1] 24, Obj.cells #[.slice A2 b1.length c2, .slice A3 b2.length c3] 24] 1 _ rfl⟩
  have Hu1 := Aside0.mk hu1
  replace RD_a0 := Aside0.mk (RD_a0.out.below hbu1)
  replace RD_a1 := Aside0.mk (RD_a1.out.below hbu1)
  replace RD_b0 := Aside0.mk (RD_b0.out.below hbu1)
  replace RD_b1 := Aside0.mk (RD_b1.out.below hbu1)
  replace BW := Aside0.mk (below_then BW.out BW.out.size hbu1)
  clear hbu1 hu1
  go_wp2_with fail
  rw [Hu1.out]
  clear Hu1
  refine (awake04 _).mono ?_
  rintro e v2 ⟨rfl, hb⟩
  replace BX_a := Aside0.mk (blk_below BX_a.out hb)
  replace BX_b := Aside0.mk (blk_below BX_b.out hb)
  replace RD_a0 := Aside0.mk (RD_a0.out.below hb)
  replace RD_a1 := Aside0.mk (RD_a1.out.below hb)
  replace RD_b0 := Aside0.mk (RD_b0.out.below hb)
  replace RD_b1 := Aside0.mk (RD_b1.out.below hb)
  replace BW := Aside0.mk (below_then BW.out BW.out.size hb)
  clear hb
  have q3 : v2.cell? ⟨w.heap.size, 0, none⟩ = some (.slice A0 a1.length c0) := (blk_cell BX_a.out 0).trans rfl
  have q4 : v2.cell? ⟨w.heap.size, 1, none⟩ = some (.slice A1 a2.length c1) := (blk_cell BX_a.out 1).trans rfl
  go_wp2_with fail
  clear q3 q4
  refine (few_r (b := true) (s := a1) (d := a2) G1.out).mono ?_
  rintro e v5 ⟨rfl, hb⟩
  replace BX_a := Aside0.mk (blk_below BX_a.out hb)
  replace BX_b := Aside0.mk (blk_below BX_b.out hb)
  replace RD_a0 := Aside0.mk (RD_a0.out.below hb)
  replace RD_a1 := Aside0.mk (RD_a1.out.below hb)
  replace RD_b0 := Aside0.mk (RD_b0.out.below hb)
  replace RD_b1 := Aside0.mk (RD_b1.out.below hb)
  replace BW := Aside0.mk (below_then BW.out BW.out.size hb)
  clear hb
  have q6 : v5.cell? ⟨w.heap.size + 1, 0, none⟩ = some (.slice A2 b1.length c2) := (blk_cell BX_b.out 0).trans rfl
  have q7 : v5.cell? ⟨w.heap.size + 1, 1, none⟩ = some (.slice A3 b2.length c3) := (blk_cell BX_b.out 1).trans rfl
  go_wp2_with fail
  clear q6 q7
  refine (few_r (b := true) (s := b1) (d := b2) G2.out).mono ?_
  rintro e v8 ⟨rfl, hb⟩
  replace BX_a := Aside0.mk (blk_below BX_a.out hb)
  replace BX_b := Aside0.mk (blk_below BX_b.out hb)
  replace RD_a0 := Aside0.mk (RD_a0.out.below hb)
  replace RD_a1 := Aside0.mk (RD_a1.out.below hb)
  replace RD_b0 := Aside0.mk (RD_b0.out.below hb)
  replace RD_b1 := Aside0.mk (RD_b1.out.below hb)
  replace BW := Aside0.mk (below_then BW.out BW.out.size hb)
  clear hb
  have q9 : v8.cell? ⟨w.heap.size, 0, none⟩ = some (.slice A0 a1.length c0) := (blk_cell BX_a.out 0).trans rfl
  have q10 : v8.cell? ⟨w.heap.size, 1, none⟩ = some (.slice A1 a2.length c1) := (blk_cell BX_a.out 1).trans rfl
  go_wp2_with fail
  clear q9 q10
  refine (tcheck_r (b := true) G3.out RD_a0.out).mono ?_
  rintro e v11 ⟨rfl, hb⟩
  replace BX_a := Aside0.mk (blk_below BX_a.out hb)
  replace BX_b := Aside0.mk (blk_below BX_b.out hb)
  replace RD_a0 := Aside0.mk (RD_a0.out.below hb)
  replace RD_a1 := Aside0.mk (RD_a1.out.below hb)
  replace RD_b0 := Aside0.mk (RD_b0.out.below hb)
  replace RD_b1 := Aside0.mk (RD_b1.out.below hb)
  replace BW := Aside0.mk (below_then BW.out BW.out.size hb)
  clear hb
  have q12 : v11.cell? ⟨w.heap.size + 1, 0, none⟩ = some (.slice A2 b1.length c2) := (blk_cell BX_b.out 0).trans rfl
  have q13 : v11.cell? ⟨w.heap.size + 1, 1, none⟩ = some (.slice A3 b2.length c3) := (blk_cell BX_b.out 1).trans rfl
  go_wp2_with fail
  clear q12 q13
  refine (tcheck_r (b := false) G4.out RD_b0.out).mono ?_
  rintro e v14 ⟨rfl, hb⟩
  replace BX_a := Aside0.mk (blk_below BX_a.out hb)
  replace BX_b := Aside0.mk (blk_below BX_b.out hb)
  replace RD_a0 := Aside0.mk (RD_a0.out.below hb)
  replace RD_a1 := Aside0.mk (RD_a1.out.below hb)
  replace RD_b0 := Aside0.mk (RD_b0.out.below hb)
  replace RD_b1 := Aside0.mk (RD_b1.out.below hb)
  replace BW := Aside0.mk (below_then BW.out BW.out.size hb)
  clear hb
  go_wp2_with fail
  go_ret
  exact ⟨rfl, BW.out⟩
set_option maxRecDepth 100000 in
theorem turns_good (A0 : Option Addr) (c0 : Nat) (a1 : List Int) (A1 : Option Addr) (c1 : Nat) (a2 : List Int) (A2 : Option Addr) (c2 : Nat) (b1 : List Int) (A3 : Option Addr) (c3 : Nat) (b2 : List Int) (w : World)
    (r0 : Rd w (.slice A0 a1.length c0) a1) (r1 : Rd w (.slice A1 a2.length c1) a2) (i1 : allI a2) (r2 : Rd w (.slice A2 b1.length c2) b1) (r3 : Rd w (.slice A3 b2.length c3) b2) (i2 : allI b2) (g1 : fewB a1 a2 = true) (g2 : fewB b1 b2 = true) (g3 : tOk a1 a2 = true) (g4 : tOk b1 b2 = true)
    (sx dx : List Int) (ex : Int) (hx : elemTwo 10 a1 a2 b1 b2 = ((sx, dx), ex)) (sy dy : List Int) (ey : Int) (hy : elemTwo 10 b1 b2 a1 a2 = ((sy, dy), ey)) (sp dp : List Int) (ep : Int) (hp : elemTwo 12 a1 a2 b1 b2 = ((sp, dp), ep)) (sq dq : List Int) (eq : Int) (hq : elemTwo 12 b1 b2 a1 a2 = ((sq, dq), eq)) (sz dz : List Int) (ez : Int) (hz : elemTwo 11 a1 a2 a1 a2 = ((sz, dz), ez)) (sn dn : List Int) (en : Int) (hn : fullT a1 0 = ((sn, dn), en)) (sk dk : List Int) (ek : Int) (hk : elemTwo 11 sx dx b1 b2 = ((sk, dk), ek)) (sl dl : List Int) (el : Int) (hl : spreadT a1 a2 sx = ((sl, dl), el))
    (ix : allI dx) (e1 : sameB sx dx sy dy = true) (e2 : ex = ey) (e3 : sameB sp dp sq dq = true) (e4 : ep = eq) (e5 : ez = 0) (e6 : en = 0) (e7 : sameB sz dz sn dn = true) (e8 : ex = 0 → ek = 0 ∧ el = 0 ∧ sameB sk dk sl dl = true) :
    Calls Try.prog 3 #[.agg #[.slice A0 a1.length c0, .slice A1 a2.length c1], .agg #[.slice A2 b1.length c2, .slice A3 b2.length c3]] w fun e w' => e = .returned (.bool true) ∧ Below w.heap.size w w' := by
  have G1 := Aside0.mk g1
  have G2 := Aside0.mk g2
  have G3 := Aside0.mk g3
  have G4 := Aside0.mk g4
  have Hx := Aside0.mk hx
  have Hy := Aside0.mk hy
  have Hp := Aside0.mk hp
  have Hq := Aside0.mk hq
  have Hz := Aside0.mk hz
  have Hn := Aside0.mk hn
  have Hk := Aside0.mk hk
  have Hl := Aside0.mk hl
  have IX := Aside0.mk ix
  have E1 := Aside0.mk e1
  have E3 := Aside0.mk e3
  have E7 := Aside0.mk e7
  have E8 := Aside0.mk e8
  have z2 : (ex == ey) = true := by simpa using e2
  have z4 : (ep == eq) = true := by simpa using e4
  have z5 : (ez == 0) = true := by simpa using e5
  have z6 : (en == 0) = true := by simpa using e6
  clear g1 g2 g3 g4 ix e1 e2 e3 e4 e5 e6 e7 e8 hx hy hp hq hz hn hk hl
  have RD_a0 := Aside0.mk r0
  have RD_a1 := Aside0.mk r1
  have RD_b0 := Aside0.mk r2
  have RD_b1 := Aside0.mk r3
  have I1 := Aside0.mk i1
  have I2 := Aside0.mk i2
  clear r0 r1 r2 r3 i1 i2
  have BW : Aside0 (Below w.heap.size w w) := ⟨Below.refl _ _⟩
  go_enter Try.func3, Try.ntmps3
  obtain ⟨u1, hu1⟩ : ∃ u, ((w.alloc (Obj.cells #[.slice A0 a1.length c0, .slice A1 a2.length c1] 24)).alloc (Obj.cells #[.slice A2 b1.length c2, .slice A3 b2.length c3] 24)) = u := ⟨_, rfl⟩
  have hbu1 : Below w.heap.size w u1 := by rw [← hu1]; exact below_fold w [Obj.cells #[.slice A0 a1.length c0, .slice A1 a2.length c1] 24, Obj.cells #[.slice A2 b1.length c2, .slice A3 b2.length c3] 24]
  have BX_a : Aside0 (u1.heap[w.heap.size]? = some (.cells #[.slice A0 a1.length c0, .slice A1 a2.length c1] 24 (0, 0))) := ⟨by rw [← hu1]; exact blk_fold w [Obj.cells #[.slice A0 a1.length c0, .slice A1 a2.length c1] 24, Obj.cells #[.slice A2 b1.length c2, .slice A3 b2.length c3] 24] 0 _ rfl⟩
  have BX_b : Aside0 (u1.heap[w.heap.size + 1]? = some (.cells #[.slice A2 b1.length c2, .slice A3 b2.length c3] 24 (0, 0))) := ⟨by rw [← hu1]; exact blk_fold w [Obj.cells #[.slice A0 a1.length c0, .slice A1 a2.length c1] 24, Obj.cells #[.slice A2 b1.length c2, .slice A3 b2.length c3] 24] 1 _ rfl⟩
  have Hu1 := Aside0.mk hu1
  replace RD_a0 := Aside0.mk (RD_a0.out.below hbu1)
  replace RD_a1 := Aside0.mk (RD_a1.out.below hbu1)
  replace RD_b0 := Aside0.mk (RD_b0.out.below hbu1)
  replace RD_b1 := Aside0.mk (RD_b1.out.below hbu1)
  replace BW := Aside0.mk (below_then BW.out BW.out.size hbu1)
  clear hbu1 hu1
  go_wp2_with fail
  rw [Hu1.out]
  clear Hu1
  refine (awake04 _).mono ?_
  rintro e v2 ⟨rfl, hb⟩
  replace BX_a := Aside0.mk (blk_below BX_a.out hb)
  replace BX_b := Aside0.mk (blk_below BX_b.out hb)
  replace RD_a0 := Aside0.mk (RD_a0.out.below hb)
  replace RD_a1 := Aside0.mk (RD_a1.out.below hb)
  replace RD_b0 := Aside0.mk (RD_b0.out.below hb)
  replace RD_b1 := Aside0.mk (RD_b1.out.below hb)
  replace BW := Aside0.mk (below_then BW.out BW.out.size hb)
  clear hb
  have q3 : v2.cell? ⟨w.heap.size, 0, none⟩ = some (.slice A0 a1.length c0) := (blk_cell BX_a.out 0).trans rfl
  have q4 : v2.cell? ⟨w.heap.size, 1, none⟩ = some (.slice A1 a2.length c1) := (blk_cell BX_a.out 1).trans rfl
  go_wp2_with fail
  clear q3 q4
  refine (few_r (b := true) (s := a1) (d := a2) G1.out).mono ?_
  rintro e v5 ⟨rfl, hb⟩
  replace BX_a := Aside0.mk (blk_below BX_a.out hb)
  replace BX_b := Aside0.mk (blk_below BX_b.out hb)
  replace RD_a0 := Aside0.mk (RD_a0.out.below hb)
  replace RD_a1 := Aside0.mk (RD_a1.out.below hb)
  replace RD_b0 := Aside0.mk (RD_b0.out.below hb)
  replace RD_b1 := Aside0.mk (RD_b1.out.below hb)
  replace BW := Aside0.mk (below_then BW.out BW.out.size hb)
  clear hb
  have q6 : v5.cell? ⟨w.heap.size + 1, 0, none⟩ = some (.slice A2 b1.length c2) := (blk_cell BX_b.out 0).trans rfl
  have q7 : v5.cell? ⟨w.heap.size + 1, 1, none⟩ = some (.slice A3 b2.length c3) := (blk_cell BX_b.out 1).trans rfl
  go_wp2_with fail
  clear q6 q7
  refine (few_r (b := true) (s := b1) (d := b2) G2.out).mono ?_
  rintro e v8 ⟨rfl, hb⟩
  replace BX_a := Aside0.mk (blk_below BX_a.out hb)
  replace BX_b := Aside0.mk (blk_below BX_b.out hb)
  replace RD_a0 := Aside0.mk (RD_a0.out.below hb)
  replace RD_a1 := Aside0.mk (RD_a1.out.below hb)
  replace RD_b0 := Aside0.mk (RD_b0.out.below hb)
  replace RD_b1 := Aside0.mk (RD_b1.out.below hb)
  replace BW := Aside0.mk (below_then BW.out BW.out.size hb)
  clear hb
  have q9 : v8.cell? ⟨w.heap.size, 0, none⟩ = some (.slice A0 a1.length c0) := (blk_cell BX_a.out 0).trans rfl
  have q10 : v8.cell? ⟨w.heap.size, 1, none⟩ = some (.slice A1 a2.length c1) := (blk_cell BX_a.out 1).trans rfl
  go_wp2_with fail
  clear q9 q10
  refine (tcheck_r (b := true) G3.out RD_a0.out).mono ?_
  rintro e v11 ⟨rfl, hb⟩
  replace BX_a := Aside0.mk (blk_below BX_a.out hb)
  replace BX_b := Aside0.mk (blk_below BX_b.out hb)
  replace RD_a0 := Aside0.mk (RD_a0.out.below hb)
  replace RD_a1 := Aside0.mk (RD_a1.out.below hb)
  replace RD_b0 := Aside0.mk (RD_b0.out.below hb)
  replace RD_b1 := Aside0.mk (RD_b1.out.below hb)
  replace BW := Aside0.mk (below_then BW.out BW.out.size hb)
  clear hb
  have q12 : v11.cell? ⟨w.heap.size + 1, 0, none⟩ = some (.slice A2 b1.length c2) := (blk_cell BX_b.out 0).trans rfl
  have q13 : v11.cell? ⟨w.heap.size + 1, 1, none⟩ = some (.slice A3 b2.length c3) := (blk_cell BX_b.out 1).trans rfl
  go_wp2_with fail
  clear q12 q13
  refine (tcheck_r (b := true) G4.out RD_b0.out).mono ?_
  rintro e v14 ⟨rfl, hb⟩
  replace BX_a := Aside0.mk (blk_below BX_a.out hb)
  replace BX_b := Aside0.mk (blk_below BX_b.out hb)
  replace RD_a0 := Aside0.mk (RD_a0.out.below hb)
  replace RD_a1 := Aside0.mk (RD_a1.out.below hb)
  replace RD_b0 := Aside0.mk (RD_b0.out.below hb)
  replace RD_b1 := Aside0.mk (RD_b1.out.below hb)
  replace BW := Aside0.mk (below_then BW.out BW.out.size hb)
  clear hb
  have q15 : v14.cell? ⟨w.heap.size, 0, none⟩ = some (.slice A0 a1.length c0) := (blk_cell BX_a.out 0).trans rfl
  have q16 : v14.cell? ⟨w.heap.size, 1, none⟩ = some (.slice A1 a2.length c1) := (blk_cell BX_a.out 1).trans rfl
  have q17 : v14.cell? ⟨w.heap.size + 1, 0, none⟩ = some (.slice A2 b1.length c2) := (blk_cell BX_b.out 0).trans rfl
  have q18 : v14.cell? ⟨w.heap.size + 1, 1, none⟩ = some (.slice A3 b2.length c3) := (blk_cell BX_b.out 1).trans rfl
  go_wp2_with fail
  clear q15 q16 q17 q18
  refine (two_r 10 Hx.out RD_a0.out RD_a1.out RD_b0.out RD_b1.out I1.out I2.out).mono ?_
  rintro e v19 ⟨Ax, kx, A'x, k'x, rfl, r0, r1, hb⟩
  have RD_x0 := Aside0.mk r0
  have RD_x1 := Aside0.mk r1
  replace BX_a := Aside0.mk (blk_below BX_a.out hb)
  replace BX_b := Aside0.mk (blk_below BX_b.out hb)
  replace RD_a0 := Aside0.mk (RD_a0.out.below hb)
  replace RD_a1 := Aside0.mk (RD_a1.out.below hb)
  replace RD_b0 := Aside0.mk (RD_b0.out.below hb)
  replace RD_b1 := Aside0.mk (RD_b1.out.below hb)
  replace BW := Aside0.mk (below_then BW.out BW.out.size hb)
  clear hb r0 r1
  have q20 : (v19.alloc (Obj.cells #[.slice Ax sx.length kx, .slice A'x dx.length k'x] 24)).cell? ⟨w.heap.size, 0, none⟩ = some (.slice A0 a1.length c0) := (blk_cell (blk_below BX_a.out (below_fold v19 [Obj.cells #[.slice Ax sx.length kx, .slice A'x dx.length k'x] 24])) 0).trans rfl
  have q21 : (v19.alloc (Obj.cells #[.slice Ax sx.length kx, .slice A'x dx.length k'x] 24)).cell? ⟨w.heap.size, 1, none⟩ = some (.slice A1 a2.length c1) := (blk_cell (blk_below BX_a.out (below_fold v19 [Obj.cells #[.slice Ax sx.length kx, .slice A'x dx.length k'x] 24])) 1).trans rfl
  have q22 : (v19.alloc (Obj.cells #[.slice Ax sx.length kx, .slice A'x dx.length k'x] 24)).cell? ⟨w.heap.size + 1, 0, none⟩ = some (.slice A2 b1.length c2) := (blk_cell (blk_below BX_b.out (below_fold v19 [Obj.cells #[.slice Ax sx.length kx, .slice A'x dx.length k'x] 24])) 0).trans rfl
  have q23 : (v19.alloc (Obj.cells #[.slice Ax sx.length kx, .slice A'x dx.length k'x] 24)).cell? ⟨w.heap.size + 1, 1, none⟩ = some (.slice A3 b2.length c3) := (blk_cell (blk_below BX_b.out (below_fold v19 [Obj.cells #[.slice Ax sx.length kx, .slice A'x dx.length k'x] 24])) 1).trans rfl
  obtain ⟨u24, hu24⟩ : ∃ u, (v19.alloc (Obj.cells #[.slice Ax sx.length kx, .slice A'x dx.length k'x] 24)) = u := ⟨_, rfl⟩
  have hbu24 : Below v19.heap.size v19 u24 := by rw [← hu24]; exact below_fold v19 [Obj.cells #[.slice Ax sx.length kx, .slice A'x dx.length k'x] 24]
  have BX_x : Aside0 (u24.heap[v19.heap.size]? = some (.cells #[.slice Ax sx.length kx, .slice A'x dx.length k'x] 24 (0, 0))) := ⟨by rw [← hu24]; exact blk_fold v19 [Obj.cells #[.slice Ax sx.length kx, .slice A'x dx.length k'x] 24] 0 _ rfl⟩
  have Hu24 := Aside0.mk hu24
  replace BX_a := Aside0.mk (blk_below BX_a.out hbu24)
  replace BX_b := Aside0.mk (blk_below BX_b.out hbu24)
  replace RD_a0 := Aside0.mk (RD_a0.out.below hbu24)
  replace RD_a1 := Aside0.mk (RD_a1.out.below hbu24)
  replace RD_b0 := Aside0.mk (RD_b0.out.below hbu24)
  replace RD_b1 := Aside0.mk (RD_b1.out.below hbu24)
  replace RD_x0 := Aside0.mk (RD_x0.out.below hbu24)
  replace RD_x1 := Aside0.mk (RD_x1.out.below hbu24)
  replace BW := Aside0.mk (below_then BW.out BW.out.size hbu24)
  clear hbu24 hu24
  go_wp2_with fail
  rw [Hu24.out]
  clear q20 q21 q22 q23
  clear Hu24
  refine (two_r 10 Hy.out RD_b0.out RD_b1.out RD_a0.out RD_a1.out I2.out I1.out).mono ?_
  rintro e v25 ⟨Ay, ky, A'y, k'y, rfl, r0, r1, hb⟩
  have RD_y0 := Aside0.mk r0
  have RD_y1 := Aside0.mk r1
  replace BX_a := Aside0.mk (blk_below BX_a.out hb)
  replace BX_b := Aside0.mk (blk_below BX_b.out hb)
  replace BX_x := Aside0.mk (blk_below BX_x.out hb)
  replace RD_a0 := Aside0.mk (RD_a0.out.below hb)
  replace RD_a1 := Aside0.mk (RD_a1.out.below hb)
  replace RD_b0 := Aside0.mk (RD_b0.out.below hb)
  replace RD_b1 := Aside0.mk (RD_b1.out.below hb)
  replace RD_x0 := Aside0.mk (RD_x0.out.below hb)
  replace RD_x1 := Aside0.mk (RD_x1.out.below hb)
  replace BW := Aside0.mk (below_then BW.out BW.out.size hb)
  clear hb r0 r1
  have q26 : (v25.alloc (Obj.cells #[.slice Ay sy.length ky, .slice A'y dy.length k'y] 24)).cell? ⟨w.heap.size, 0, none⟩ = some (.slice A0 a1.length c0) := (blk_cell (blk_below BX_a.out (below_fold v25 [Obj.cells #[.slice Ay sy.length ky, .slice A'y dy.length k'y] 24])) 0).trans rfl
  have q27 : (v25.alloc (Obj.cells #[.slice Ay sy.length ky, .slice A'y dy.length k'y] 24)).cell? ⟨w.heap.size, 1, none⟩ = some (.slice A1 a2.length c1) := (blk_cell (blk_below BX_a.out (below_fold v25 [Obj.cells #[.slice Ay sy.length ky, .slice A'y dy.length k'y] 24])) 1).trans rfl
  have q28 : (v25.alloc (Obj.cells #[.slice Ay sy.length ky, .slice A'y dy.length k'y] 24)).cell? ⟨w.heap.size + 1, 0, none⟩ = some (.slice A2 b1.length c2) := (blk_cell (blk_below BX_b.out (below_fold v25 [Obj.cells #[.slice Ay sy.length ky, .slice A'y dy.length k'y] 24])) 0).trans rfl
  have q29 : (v25.alloc (Obj.cells #[.slice Ay sy.length ky, .slice A'y dy.length k'y] 24)).cell? ⟨w.heap.size + 1, 1, none⟩ = some (.slice A3 b2.length c3) := (blk_cell (blk_below BX_b.out (below_fold v25 [Obj.cells #[.slice Ay sy.length ky, .slice A'y dy.length k'y] 24])) 1).trans rfl
  obtain ⟨u30, hu30⟩ : ∃ u, (v25.alloc (Obj.cells #[.slice Ay sy.length ky, .slice A'y dy.length k'y] 24)) = u := ⟨_, rfl⟩
  have hbu30 : Below v25.heap.size v25 u30 := by rw [← hu30]; exact below_fold v25 [Obj.cells #[.slice Ay sy.length ky, .slice A'y dy.length k'y] 24]
  have BX_y : Aside0 (u30.heap[v25.heap.size]? = some (.cells #[.slice Ay sy.length ky, .slice A'y dy.length k'y] 24 (0, 0))) := ⟨by rw [← hu30]; exact blk_fold v25 [Obj.cells #[.slice Ay sy.length ky, .slice A'y dy.length k'y] 24] 0 _ rfl⟩
  have Hu30 := Aside0.mk hu30
  replace BX_a := Aside0.mk (blk_below BX_a.out hbu30)
  replace BX_b := Aside0.mk (blk_below BX_b.out hbu30)
  replace BX_x := Aside0.mk (blk_below BX_x.out hbu30)
  replace RD_a0 := Aside0.mk (RD_a0.out.below hbu30)
  replace RD_a1 := Aside0.mk (RD_a1.out.below hbu30)
  replace RD_b0 := Aside0.mk (RD_b0.out.below hbu30)
  replace RD_b1 := Aside0.mk (RD_b1.out.below hbu30)
  replace RD_x0 := Aside0.mk (RD_x0.out.below hbu30)
  replace RD_x1 := Aside0.mk (RD_x1.out.below hbu30)
  replace RD_y0 := Aside0.mk (RD_y0.out.below hbu30)
  replace RD_y1 := Aside0.mk (RD_y1.out.below hbu30)
  replace BW := Aside0.mk (below_then BW.out BW.out.size hbu30)
  clear hbu30 hu30
  go_wp2_with fail
  rw [Hu30.out]
  clear q26 q27 q28 q29
  clear Hu30
  refine (two_r 12 Hp.out RD_a0.out RD_a1.out RD_b0.out RD_b1.out I1.out I2.out).mono ?_
  rintro e v31 ⟨Ap, kp, A'p, k'p, rfl, r0, r1, hb⟩
  have RD_p0 := Aside0.mk r0
  have RD_p1 := Aside0.mk r1
  replace BX_a := Aside0.mk (blk_below BX_a.out hb)
  replace BX_b := Aside0.mk (blk_below BX_b.out hb)
  replace BX_x := Aside0.mk (blk_below BX_x.out hb)
  replace BX_y := Aside0.mk (blk_below BX_y.out hb)
  replace RD_a0 := Aside0.mk (RD_a0.out.below hb)
  replace RD_a1 := Aside0.mk (RD_a1.out.below hb)
  replace RD_b0 := Aside0.mk (RD_b0.out.below hb)
  replace RD_b1 := Aside0.mk (RD_b1.out.below hb)
  replace RD_x0 := Aside0.mk (RD_x0.out.below hb)
  replace RD_x1 := Aside0.mk (RD_x1.out.below hb)
  replace RD_y0 := Aside0.mk (RD_y0.out.below hb)
  replace RD_y1 := Aside0.mk (RD_y1.out.below hb)
  replace BW := Aside0.mk (below_then BW.out BW.out.size hb)
  clear hb r0 r1
  have q32 : (v31.alloc (Obj.cells #[.slice Ap sp.length kp, .slice A'p dp.length k'p] 24)).cell? ⟨w.heap.size, 0, none⟩ = some (.slice A0 a1.length c0) := (blk_cell (blk_below BX_a.out (below_fold v31 [Obj.cells #[.slice Ap sp.length kp, .slice A'p dp.length k'p] 24])) 0).trans rfl
  have q33 : (v31.alloc (Obj.cells #[.slice Ap sp.length kp, .slice A'p dp.length k'p] 24)).cell? ⟨w.heap.size, 1, none⟩ = some (.slice A1 a2.length c1) := (blk_cell (blk_below BX_a.out (below_fold v31 [Obj.cells #[.slice Ap sp.length kp, .slice A'p dp.length k'p] 24])) 1).trans rfl
  have q34 : (v31.alloc (Obj.cells #[.slice Ap sp.length kp, .slice A'p dp.length k'p] 24)).cell? ⟨w.heap.size + 1, 0, none⟩ = some (.slice A2 b1.length c2) := (blk_cell (blk_below BX_b.out (below_fold v31 [Obj.cells #[.slice Ap sp.length kp, .slice A'p dp.length k'p] 24])) 0).trans rfl
  have q35 : (v31.alloc (Obj.cells #[.slice Ap sp.length kp, .slice A'p dp.length k'p] 24)).cell? ⟨w.heap.size + 1, 1, none⟩ = some (.slice A3 b2.length c3) := (blk_cell (blk_below BX_b.out (below_fold v31 [Obj.cells #[.slice Ap sp.length kp, .slice A'p dp.length k'p] 24])) 1).trans rfl
  obtain ⟨u36, hu36⟩ : ∃ u, (v31.alloc (Obj.cells #[.slice Ap sp.length kp, .slice A'p dp.length k'p] 24)) = u := ⟨_, rfl⟩
  have hbu36 : Below v31.heap.size v31 u36 := by rw [← hu36]; exact below_fold v31 [Obj.cells #[.slice Ap sp.length kp, .slice A'p dp.length k'p] 24]
  have BX_p : Aside0 (u36.heap[v31.heap.size]? = some (.cells #[.slice Ap sp.length kp, .slice A'p dp.length k'p] 24 (0, 0))) := ⟨by rw [← hu36]; exact blk_fold v31 [Obj.cells #[.slice Ap sp.length kp, .slice A'p dp.length k'p] 24] 0 _ rfl⟩
  have Hu36 := Aside0.mk hu36
  replace BX_a := Aside0.mk (blk_below BX_a.out hbu36)
  replace BX_b := Aside0.mk (blk_below BX_b.out hbu36)
  replace BX_x := Aside0.mk (blk_below BX_x.out hbu36)
  replace BX_y := Aside0.mk (blk_below BX_y.out hbu36)
  replace RD_a0 := Aside0.mk (RD_a0.out.below hbu36)
  replace RD_a1 := Aside0.mk (RD_a1.out.below hbu36)
  replace RD_b0 := Aside0.mk (RD_b0.out.below hbu36)
  replace RD_b1 := Aside0.mk (RD_b1.out.below hbu36)
  replace RD_x0 := Aside0.mk (RD_x0.out.below hbu36)
  replace RD_x1 := Aside0.mk (RD_x1.out.below hbu36)
  replace RD_y0 := Aside0.mk (RD_y0.out.below hbu36)
  replace RD_y1 := Aside0.mk (RD_y1.out.below hbu36)
  replace RD_p0 := Aside0.mk (RD_p0.out.below hbu36)
  replace RD_p1 := Aside0.mk (RD_p1.out.below hbu36)
  replace BW := Aside0.mk (below_then BW.out BW.out.size hbu36)
  clear hbu36 hu36
  go_wp2_with fail
  rw [Hu36.out]
  clear q32 q33 q34 q35
  clear Hu36
  refine (two_r 12 Hq.out RD_b0.out RD_b1.out RD_a0.out RD_a1.out I2.out I1.out).mono ?_
  rintro e v37 ⟨Aq, kq, A'q, k'q, rfl, r0, r1, hb⟩
  have RD_q0 := Aside0.mk r0
  have RD_q1 := Aside0.mk r1
  replace BX_a := Aside0.mk (blk_below BX_a.out hb)
  replace BX_b := Aside0.mk (blk_below BX_b.out hb)
  replace BX_x := Aside0.mk (blk_below BX_x.out hb)
  replace BX_y := Aside0.mk (blk_below BX_y.out hb)
  replace BX_p := Aside0.mk (blk_below BX_p.out hb)
  replace RD_a0 := Aside0.mk (RD_a0.out.below hb)
  replace RD_a1 := Aside0.mk (RD_a1.out.below hb)
  replace RD_b0 := Aside0.mk (RD_b0.out.below hb)
  replace RD_b1 := Aside0.mk (RD_b1.out.below hb)
  replace RD_x0 := Aside0.mk (RD_x0.out.below hb)
  replace RD_x1 := Aside0.mk (RD_x1.out.below hb)
  replace RD_y0 := Aside0.mk (RD_y0.out.below hb)
  replace RD_y1 := Aside0.mk (RD_y1.out.below hb)
  replace RD_p0 := Aside0.mk (RD_p0.out.below hb)
  replace RD_p1 := Aside0.mk (RD_p1.out.below hb)
  replace BW := Aside0.mk (below_then BW.out BW.out.size hb)
  clear hb r0 r1
  have q38 : (v37.alloc (Obj.cells #[.slice Aq sq.length kq, .slice A'q dq.length k'q] 24)).cell? ⟨w.heap.size, 0, none⟩ = some (.slice A0 a1.length c0) := (blk_cell (blk_below BX_a.out (below_fold v37 [Obj.cells #[.slice Aq sq.length kq, .slice A'q dq.length k'q] 24])) 0).trans rfl
  have q39 : (v37.alloc (Obj.cells #[.slice Aq sq.length kq, .slice A'q dq.length k'q] 24)).cell? ⟨w.heap.size, 1, none⟩ = some (.slice A1 a2.length c1) := (blk_cell (blk_below BX_a.out (below_fold v37 [Obj.cells #[.slice Aq sq.length kq, .slice A'q dq.length k'q] 24])) 1).trans rfl
  obtain ⟨u40, hu40⟩ : ∃ u, (v37.alloc (Obj.cells #[.slice Aq sq.length kq, .slice A'q dq.length k'q] 24)) = u := ⟨_, rfl⟩
  have hbu40 : Below v37.heap.size v37 u40 := by rw [← hu40]; exact below_fold v37 [Obj.cells #[.slice Aq sq.length kq, .slice A'q dq.length k'q] 24]
  have BX_q : Aside0 (u40.heap[v37.heap.size]? = some (.cells #[.slice Aq sq.length kq, .slice A'q dq.length k'q] 24 (0, 0))) := ⟨by rw [← hu40]; exact blk_fold v37 [Obj.cells #[.slice Aq sq.length kq, .slice A'q dq.length k'q] 24] 0 _ rfl⟩
  have Hu40 := Aside0.mk hu40
  replace BX_a := Aside0.mk (blk_below BX_a.out hbu40)
  replace BX_b := Aside0.mk (blk_below BX_b.out hbu40)
  replace BX_x := Aside0.mk (blk_below BX_x.out hbu40)
  replace BX_y := Aside0.mk (blk_below BX_y.out hbu40)
  replace BX_p := Aside0.mk (blk_below BX_p.out hbu40)
  replace RD_a0 := Aside0.mk (RD_a0.out.below hbu40)
  replace RD_a1 := Aside0.mk (RD_a1.out.below hbu40)
  replace RD_b0 := Aside0.mk (RD_b0.out.below hbu40)
  replace RD_b1 := Aside0.mk (RD_b1.out.below hbu40)
  replace RD_x0 := Aside0.mk (RD_x0.out.below hbu40)
  replace RD_x1 := Aside0.mk (RD_x1.out.below hbu40)
  replace RD_y0 := Aside0.mk (RD_y0.out.below hbu40)
  replace RD_y1 := Aside0.mk (RD_y1.out.below hbu40)
  replace RD_p0 := Aside0.mk (RD_p0.out.below hbu40)
  replace RD_p1 := Aside0.mk (RD_p1.out.below hbu40)
  replace RD_q0 := Aside0.mk (RD_q0.out.below hbu40)
  replace RD_q1 := Aside0.mk (RD_q1.out.below hbu40)
  replace BW := Aside0.mk (below_then BW.out BW.out.size hbu40)
  clear hbu40 hu40
  go_wp2_with fail
  rw [Hu40.out]
  clear q38 q39
  clear Hu40
  refine (two_r 11 Hz.out RD_a0.out RD_a1.out RD_a0.out RD_a1.out I1.out I1.out).mono ?_
  rintro e v41 ⟨Az, kz, A'z, k'z, rfl, r0, r1, hb⟩
  have RD_z0 := Aside0.mk r0
  have RD_z1 := Aside0.mk r1
  replace BX_a := Aside0.mk (blk_below BX_a.out hb)
  replace BX_b := Aside0.mk (blk_below BX_b.out hb)
  replace BX_x := Aside0.mk (blk_below BX_x.out hb)
  replace BX_y := Aside0.mk (blk_below BX_y.out hb)
  replace BX_p := Aside0.mk (blk_below BX_p.out hb)
  replace BX_q := Aside0.mk (blk_below BX_q.out hb)
  replace RD_a0 := Aside0.mk (RD_a0.out.below hb)
  replace RD_a1 := Aside0.mk (RD_a1.out.below hb)
  replace RD_b0 := Aside0.mk (RD_b0.out.below hb)
  replace RD_b1 := Aside0.mk (RD_b1.out.below hb)
  replace RD_x0 := Aside0.mk (RD_x0.out.below hb)
  replace RD_x1 := Aside0.mk (RD_x1.out.below hb)
  replace RD_y0 := Aside0.mk (RD_y0.out.below hb)
  replace RD_y1 := Aside0.mk (RD_y1.out.below hb)
  replace RD_p0 := Aside0.mk (RD_p0.out.below hb)
  replace RD_p1 := Aside0.mk (RD_p1.out.below hb)
  replace RD_q0 := Aside0.mk (RD_q0.out.below hb)
  replace RD_q1 := Aside0.mk (RD_q1.out.below hb)
  replace BW := Aside0.mk (below_then BW.out BW.out.size hb)
  clear hb r0 r1
  have q42 : (v41.alloc (Obj.cells #[.slice Az sz.length kz, .slice A'z dz.length k'z] 24)).cell? ⟨w.heap.size, 0, none⟩ = some (.slice A0 a1.length c0) := (blk_cell (blk_below BX_a.out (below_fold v41 [Obj.cells #[.slice Az sz.length kz, .slice A'z dz.length k'z] 24])) 0).trans rfl
  obtain ⟨u43, hu43⟩ : ∃ u, (v41.alloc (Obj.cells #[.slice Az sz.length kz, .slice A'z dz.length k'z] 24)) = u := ⟨_, rfl⟩
  have hbu43 : Below v41.heap.size v41 u43 := by rw [← hu43]; exact below_fold v41 [Obj.cells #[.slice Az sz.length kz, .slice A'z dz.length k'z] 24]
  have BX_z : Aside0 (u43.heap[v41.heap.size]? = some (.cells #[.slice Az sz.length kz, .slice A'z dz.length k'z] 24 (0, 0))) := ⟨by rw [← hu43]; exact blk_fold v41 [Obj.cells #[.slice Az sz.length kz, .slice A'z dz.length k'z] 24] 0 _ rfl⟩
  have Hu43 := Aside0.mk hu43
  replace BX_a := Aside0.mk (blk_below BX_a.out hbu43)
  replace BX_b := Aside0.mk (blk_below BX_b.out hbu43)
  replace BX_x := Aside0.mk (blk_below BX_x.out hbu43)
  replace BX_y := Aside0.mk (blk_below BX_y.out hbu43)
  replace BX_p := Aside0.mk (blk_below BX_p.out hbu43)
  replace BX_q := Aside0.mk (blk_below BX_q.out hbu43)
  replace RD_a0 := Aside0.mk (RD_a0.out.below hbu43)
  replace RD_a1 := Aside0.mk (RD_a1.out.below hbu43)
  replace RD_b0 := Aside0.mk (RD_b0.out.below hbu43)
  replace RD_b1 := Aside0.mk (RD_b1.out.below hbu43)
  replace RD_x0 := Aside0.mk (RD_x0.out.below hbu43)
  replace RD_x1 := Aside0.mk (RD_x1.out.below hbu43)
  replace RD_y0 := Aside0.mk (RD_y0.out.below hbu43)
  replace RD_y1 := Aside0.mk (RD_y1.out.below hbu43)
  replace RD_p0 := Aside0.mk (RD_p0.out.below hbu43)
  replace RD_p1 := Aside0.mk (RD_p1.out.below hbu43)
  replace RD_q0 := Aside0.mk (RD_q0.out.below hbu43)
  replace RD_q1 := Aside0.mk (RD_q1.out.below hbu43)
  replace RD_z0 := Aside0.mk (RD_z0.out.below hbu43)
  replace RD_z1 := Aside0.mk (RD_z1.out.below hbu43)
  replace BW := Aside0.mk (below_then BW.out BW.out.size hbu43)
  clear hbu43 hu43
  go_wp2_with fail
  rw [Hu43.out]
  clear q42
  clear Hu43
  refine (full_r (n := 0) Hn.out RD_a0.out).mono ?_
  rintro e v44 ⟨An, kn, A'n, k'n, rfl, r0, r1, hb⟩
  have RD_n0 := Aside0.mk r0
  have RD_n1 := Aside0.mk r1
  replace BX_a := Aside0.mk (blk_below BX_a.out hb)
  replace BX_b := Aside0.mk (blk_below BX_b.out hb)
  replace BX_x := Aside0.mk (blk_below BX_x.out hb)
  replace BX_y := Aside0.mk (blk_below BX_y.out hb)
  replace BX_p := Aside0.mk (blk_below BX_p.out hb)
  replace BX_q := Aside0.mk (blk_below BX_q.out hb)
  replace BX_z := Aside0.mk (blk_below BX_z.out hb)
  replace RD_a0 := Aside0.mk (RD_a0.out.below hb)
  replace RD_a1 := Aside0.mk (RD_a1.out.below hb)
  replace RD_b0 := Aside0.mk (RD_b0.out.below hb)
  replace RD_b1 := Aside0.mk (RD_b1.out.below hb)
  replace RD_x0 := Aside0.mk (RD_x0.out.below hb)
  replace RD_x1 := Aside0.mk (RD_x1.out.below hb)
  replace RD_y0 := Aside0.mk (RD_y0.out.below hb)
  replace RD_y1 := Aside0.mk (RD_y1.out.below hb)
  replace RD_p0 := Aside0.mk (RD_p0.out.below hb)
  replace RD_p1 := Aside0.mk (RD_p1.out.below hb)
  replace RD_q0 := Aside0.mk (RD_q0.out.below hb)
  replace RD_q1 := Aside0.mk (RD_q1.out.below hb)
  replace RD_z0 := Aside0.mk (RD_z0.out.below hb)
  replace RD_z1 := Aside0.mk (RD_z1.out.below hb)
  replace BW := Aside0.mk (below_then BW.out BW.out.size hb)
  clear hb r0 r1
  have q45 : (v44.alloc (Obj.cells #[.slice An sn.length kn, .slice A'n dn.length k'n] 24)).cell? ⟨v19.heap.size, 0, none⟩ = some (.slice Ax sx.length kx) := (blk_cell (blk_below BX_x.out (below_fold v44 [Obj.cells #[.slice An sn.length kn, .slice A'n dn.length k'n] 24])) 0).trans rfl
  have q46 : (v44.alloc (Obj.cells #[.slice An sn.length kn, .slice A'n dn.length k'n] 24)).cell? ⟨v19.heap.size, 1, none⟩ = some (.slice A'x dx.length k'x) := (blk_cell (blk_below BX_x.out (below_fold v44 [Obj.cells #[.slice An sn.length kn, .slice A'n dn.length k'n] 24])) 1).trans rfl
  have q47 : (v44.alloc (Obj.cells #[.slice An sn.length kn, .slice A'n dn.length k'n] 24)).cell? ⟨w.heap.size + 1, 0, none⟩ = some (.slice A2 b1.length c2) := (blk_cell (blk_below BX_b.out (below_fold v44 [Obj.cells #[.slice An sn.length kn, .slice A'n dn.length k'n] 24])) 0).trans rfl
  have q48 : (v44.alloc (Obj.cells #[.slice An sn.length kn, .slice A'n dn.length k'n] 24)).cell? ⟨w.heap.size + 1, 1, none⟩ = some (.slice A3 b2.length c3) := (blk_cell (blk_below BX_b.out (below_fold v44 [Obj.cells #[.slice An sn.length kn, .slice A'n dn.length k'n] 24])) 1).trans rfl
  obtain ⟨u49, hu49⟩ : ∃ u, (v44.alloc (Obj.cells #[.slice An sn.length kn, .slice A'n dn.length k'n] 24)) = u := ⟨_, rfl⟩
  have hbu49 : Below v44.heap.size v44 u49 := by rw [← hu49]; exact below_fold v44 [Obj.cells #[.slice An sn.length kn, .slice A'n dn.length k'n] 24]
  have BX_n : Aside0 (u49.heap[v44.heap.size]? = some (.cells #[.slice An sn.length kn, .slice A'n dn.length k'n] 24 (0, 0))) := ⟨by rw [← hu49]; exact blk_fold v44 [Obj.cells #[.slice An sn.length kn, .slice A'n dn.length k'n] 24] 0 _ rfl⟩
  have Hu49 := Aside0.mk hu49
  replace BX_a := Aside0.mk (blk_below BX_a.out hbu49)
  replace BX_b := Aside0.mk (blk_below BX_b.out hbu49)
  replace BX_x := Aside0.mk (blk_below BX_x.out hbu49)
  replace BX_y := Aside0.mk (blk_below BX_y.out hbu49)
  replace BX_p := Aside0.mk (blk_below BX_p.out hbu49)
  replace BX_q := Aside0.mk (blk_below BX_q.out hbu49)
  replace BX_z := Aside0.mk (blk_below BX_z.out hbu49)
  replace RD_a0 := Aside0.mk (RD_a0.out.below hbu49)
  replace RD_a1 := Aside0.mk (RD_a1.out.below hbu49)
  replace RD_b0 := Aside0.mk (RD_b0.out.below hbu49)
  replace RD_b1 := Aside0.mk (RD_b1.out.below hbu49)
  replace RD_x0 := Aside0.mk (RD_x0.out.below hbu49)
  replace RD_x1 := Aside0.mk (RD_x1.out.below hbu49)
  replace RD_y0 := Aside0.mk (RD_y0.out.below hbu49)
  replace RD_y1 := Aside0.mk (RD_y1.out.below hbu49)
  replace RD_p0 := Aside0.mk (RD_p0.out.below hbu49)
  replace RD_p1 := Aside0.mk (RD_p1.out.below hbu49)
  replace RD_q0 := Aside0.mk (RD_q0.out.below hbu49)
  replace RD_q1 := Aside0.mk (RD_q1.out.below hbu49)
  replace RD_z0 := Aside0.mk (RD_z0.out.below hbu49)
  replace RD_z1 := Aside0.mk (RD_z1.out.below hbu49)
  replace RD_n0 := Aside0.mk (RD_n0.out.below hbu49)
  replace RD_n1 := Aside0.mk (RD_n1.out.below hbu49)
  replace BW := Aside0.mk (below_then BW.out BW.out.size hbu49)
  clear hbu49 hu49
  go_wp2_with fail
  rw [Hu49.out]
  clear q45 q46 q47 q48
  clear Hu49
  refine (two_r 11 Hk.out RD_x0.out RD_x1.out RD_b0.out RD_b1.out IX.out I2.out).mono ?_
  rintro e v50 ⟨Ak, kk, A'k, k'k, rfl, r0, r1, hb⟩
  have RD_k0 := Aside0.mk r0
  have RD_k1 := Aside0.mk r1
  replace BX_a := Aside0.mk (blk_below BX_a.out hb)
  replace BX_b := Aside0.mk (blk_below BX_b.out hb)
  replace BX_x := Aside0.mk (blk_below BX_x.out hb)
  replace BX_y := Aside0.mk (blk_below BX_y.out hb)
  replace BX_p := Aside0.mk (blk_below BX_p.out hb)
  replace BX_q := Aside0.mk (blk_below BX_q.out hb)
  replace BX_z := Aside0.mk (blk_below BX_z.out hb)
  replace BX_n := Aside0.mk (blk_below BX_n.out hb)
  replace RD_a0 := Aside0.mk (RD_a0.out.below hb)
  replace RD_a1 := Aside0.mk (RD_a1.out.below hb)
  replace RD_b0 := Aside0.mk (RD_b0.out.below hb)
  replace RD_b1 := Aside0.mk (RD_b1.out.below hb)
  replace RD_x0 := Aside0.mk (RD_x0.out.below hb)
  replace RD_x1 := Aside0.mk (RD_x1.out.below hb)
  replace RD_y0 := Aside0.mk (RD_y0.out.below hb)
  replace RD_y1 := Aside0.mk (RD_y1.out.below hb)
  replace RD_p0 := Aside0.mk (RD_p0.out.below hb)
  replace RD_p1 := Aside0.mk (RD_p1.out.below hb)
  replace RD_q0 := Aside0.mk (RD_q0.out.below hb)
  replace RD_q1 := Aside0.mk (RD_q1.out.below hb)
  replace RD_z0 := Aside0.mk (RD_z0.out.below hb)
  replace RD_z1 := Aside0.mk (RD_z1.out.below hb)
  replace RD_n0 := Aside0.mk (RD_n0.out.below hb)
  replace RD_n1 := Aside0.mk (RD_n1.out.below hb)
  replace BW := Aside0.mk (below_then BW.out BW.out.size hb)
  clear hb r0 r1
  have q51 : (v50.alloc (Obj.cells #[.slice Ak sk.length kk, .slice A'k dk.length k'k] 24)).cell? ⟨w.heap.size, 0, none⟩ = some (.slice A0 a1.length c0) := (blk_cell (blk_below BX_a.out (below_fold v50 [Obj.cells #[.slice Ak sk.length kk, .slice A'k dk.length k'k] 24])) 0).trans rfl
  have q52 : (v50.alloc (Obj.cells #[.slice Ak sk.length kk, .slice A'k dk.length k'k] 24)).cell? ⟨w.heap.size, 1, none⟩ = some (.slice A1 a2.length c1) := (blk_cell (blk_below BX_a.out (below_fold v50 [Obj.cells #[.slice Ak sk.length kk, .slice A'k dk.length k'k] 24])) 1).trans rfl
  have q53 : (v50.alloc (Obj.cells #[.slice Ak sk.length kk, .slice A'k dk.length k'k] 24)).cell? ⟨v19.heap.size, 0, none⟩ = some (.slice Ax sx.length kx) := (blk_cell (blk_below BX_x.out (below_fold v50 [Obj.cells #[.slice Ak sk.length kk, .slice A'k dk.length k'k] 24])) 0).trans rfl
  obtain ⟨u54, hu54⟩ : ∃ u, (v50.alloc (Obj.cells #[.slice Ak sk.length kk, .slice A'k dk.length k'k] 24)) = u := ⟨_, rfl⟩
  have hbu54 : Below v50.heap.size v50 u54 := by rw [← hu54]; exact below_fold v50 [Obj.cells #[.slice Ak sk.length kk, .slice A'k dk.length k'k] 24]
  have BX_k : Aside0 (u54.heap[v50.heap.size]? = some (.cells #[.slice Ak sk.length kk, .slice A'k dk.length k'k] 24 (0, 0))) := ⟨by rw [← hu54]; exact blk_fold v50 [Obj.cells #[.slice Ak sk.length kk, .slice A'k dk.length k'k] 24] 0 _ rfl⟩
  have Hu54 := Aside0.mk hu54
  replace BX_a := Aside0.mk (blk_below BX_a.out hbu54)
  replace BX_b := Aside0.mk (blk_below BX_b.out hbu54)
  replace BX_x := Aside0.mk (blk_below BX_x.out hbu54)
  replace BX_y := Aside0.mk (blk_below BX_y.out hbu54)
  replace BX_p := Aside0.mk (blk_below BX_p.out hbu54)
  replace BX_q := Aside0.mk (blk_below BX_q.out hbu54)
  replace BX_z := Aside0.mk (blk_below BX_z.out hbu54)
  replace BX_n := Aside0.mk (blk_below BX_n.out hbu54)
  replace RD_a0 := Aside0.mk (RD_a0.out.below hbu54)
  replace RD_a1 := Aside0.mk (RD_a1.out.below hbu54)
  replace RD_b0 := Aside0.mk (RD_b0.out.below hbu54)
  replace RD_b1 := Aside0.mk (RD_b1.out.below hbu54)
  replace RD_x0 := Aside0.mk (RD_x0.out.below hbu54)
  replace RD_x1 := Aside0.mk (RD_x1.out.below hbu54)
  replace RD_y0 := Aside0.mk (RD_y0.out.below hbu54)
  replace RD_y1 := Aside0.mk (RD_y1.out.below hbu54)
  replace RD_p0 := Aside0.mk (RD_p0.out.below hbu54)
  replace RD_p1 := Aside0.mk (RD_p1.out.below hbu54)
  replace RD_q0 := Aside0.mk (RD_q0.out.below hbu54)
  replace RD_q1 := Aside0.mk (RD_q1.out.below hbu54)
  replace RD_z0 := Aside0.mk (RD_z0.out.below hbu54)
  replace RD_z1 := Aside0.mk (RD_z1.out.below hbu54)
  replace RD_n0 := Aside0.mk (RD_n0.out.below hbu54)
  replace RD_n1 := Aside0.mk (RD_n1.out.below hbu54)
  replace RD_k0 := Aside0.mk (RD_k0.out.below hbu54)
  replace RD_k1 := Aside0.mk (RD_k1.out.below hbu54)
  replace BW := Aside0.mk (below_then BW.out BW.out.size hbu54)
  clear hbu54 hu54
  go_wp2_with fail
  rw [Hu54.out]
  clear q51 q52 q53
  clear Hu54
  refine (spread_r Hl.out RD_a0.out RD_a1.out RD_x0.out).mono ?_
  rintro e v55 ⟨Al, kl, A'l, k'l, rfl, r0, r1, hb⟩
  have RD_l0 := Aside0.mk r0
  have RD_l1 := Aside0.mk r1
  replace BX_a := Aside0.mk (blk_below BX_a.out hb)
  replace BX_b := Aside0.mk (blk_below BX_b.out hb)
  replace BX_x := Aside0.mk (blk_below BX_x.out hb)
  replace BX_y := Aside0.mk (blk_below BX_y.out hb)
  replace BX_p := Aside0.mk (blk_below BX_p.out hb)
  replace BX_q := Aside0.mk (blk_below BX_q.out hb)
  replace BX_z := Aside0.mk (blk_below BX_z.out hb)
  replace BX_n := Aside0.mk (blk_below BX_n.out hb)
  replace BX_k := Aside0.mk (blk_below BX_k.out hb)
  replace RD_a0 := Aside0.mk (RD_a0.out.below hb)
  replace RD_a1 := Aside0.mk (RD_a1.out.below hb)
  replace RD_b0 := Aside0.mk (RD_b0.out.below hb)
  replace RD_b1 := Aside0.mk (RD_b1.out.below hb)
  replace RD_x0 := Aside0.mk (RD_x0.out.below hb)
  replace RD_x1 := Aside0.mk (RD_x1.out.below hb)
  replace RD_y0 := Aside0.mk (RD_y0.out.below hb)
  replace RD_y1 := Aside0.mk (RD_y1.out.below hb)
  replace RD_p0 := Aside0.mk (RD_p0.out.below hb)
  replace RD_p1 := Aside0.mk (RD_p1.out.below hb)
  replace RD_q0 := Aside0.mk (RD_q0.out.below hb)
  replace RD_q1 := Aside0.mk (RD_q1.out.below hb)
  replace RD_z0 := Aside0.mk (RD_z0.out.below hb)
  replace RD_z1 := Aside0.mk (RD_z1.out.below hb)
  replace RD_n0 := Aside0.mk (RD_n0.out.below hb)
  replace RD_n1 := Aside0.mk (RD_n1.out.below hb)
  replace RD_k0 := Aside0.mk (RD_k0.out.below hb)
  replace RD_k1 := Aside0.mk (RD_k1.out.below hb)
  replace BW := Aside0.mk (below_then BW.out BW.out.size hb)
  clear hb r0 r1
  by_cases hx : ex = 0
  · have zk : (ek == 0) = true := by simpa using (E8.out hx).1
    have zl : (el == 0) = true := by simpa using (E8.out hx).2.1
    have zx : (ex != 0) = false := by simpa using hx
    have E9 := Aside0.mk (E8.out hx).2.2
    clear hx
    have q56 : (v55.alloc (Obj.cells #[.slice Al sl.length kl, .slice A'l dl.length k'l] 24)).cell? ⟨v50.heap.size, 0, none⟩ = some (.slice Ak sk.length kk) := (blk_cell (blk_below BX_k.out (below_fold v55 [Obj.cells #[.slice Al sl.length kl, .slice A'l dl.length k'l] 24])) 0).trans rfl
    have q57 : (v55.alloc (Obj.cells #[.slice Al sl.length kl, .slice A'l dl.length k'l] 24)).cell? ⟨v50.heap.size, 1, none⟩ = some (.slice A'k dk.length k'k) := (blk_cell (blk_below BX_k.out (below_fold v55 [Obj.cells #[.slice Al sl.length kl, .slice A'l dl.length k'l] 24])) 1).trans rfl
    have q58 : (v55.alloc (Obj.cells #[.slice Al sl.length kl, .slice A'l dl.length k'l] 24)).cell? ⟨v55.heap.size, 0, none⟩ = some (.slice Al sl.length kl) := (blk_cell (blk_fold v55 [Obj.cells #[.slice Al sl.length kl, .slice A'l dl.length k'l] 24] 0 _ rfl) 0).trans rfl
    have q59 : (v55.alloc (Obj.cells #[.slice Al sl.length kl, .slice A'l dl.length k'l] 24)).cell? ⟨v55.heap.size, 1, none⟩ = some (.slice A'l dl.length k'l) := (blk_cell (blk_fold v55 [Obj.cells #[.slice Al sl.length kl, .slice A'l dl.length k'l] 24] 0 _ rfl) 1).trans rfl
    obtain ⟨u60, hu60⟩ : ∃ u, (v55.alloc (Obj.cells #[.slice Al sl.length kl, .slice A'l dl.length k'l] 24)) = u := ⟨_, rfl⟩
    have hbu60 : Below v55.heap.size v55 u60 := by rw [← hu60]; exact below_fold v55 [Obj.cells #[.slice Al sl.length kl, .slice A'l dl.length k'l] 24]
    have BX_l : Aside0 (u60.heap[v55.heap.size]? = some (.cells #[.slice Al sl.length kl, .slice A'l dl.length k'l] 24 (0, 0))) := ⟨by rw [← hu60]; exact blk_fold v55 [Obj.cells #[.slice Al sl.length kl, .slice A'l dl.length k'l] 24] 0 _ rfl⟩
    have Hu60 := Aside0.mk hu60
    replace BX_a := Aside0.mk (blk_below BX_a.out hbu60)
    replace BX_b := Aside0.mk (blk_below BX_b.out hbu60)
    replace BX_x := Aside0.mk (blk_below BX_x.out hbu60)
    replace BX_y := Aside0.mk (blk_below BX_y.out hbu60)
    replace BX_p := Aside0.mk (blk_below BX_p.out hbu60)
    replace BX_q := Aside0.mk (blk_below BX_q.out hbu60)
    replace BX_z := Aside0.mk (blk_below BX_z.out hbu60)
    replace BX_n := Aside0.mk (blk_below BX_n.out hbu60)
    replace BX_k := Aside0.mk (blk_below BX_k.out hbu60)
    replace RD_a0 := Aside0.mk (RD_a0.out.below hbu60)
    replace RD_a1 := Aside0.mk (RD_a1.out.below hbu60)
    replace RD_b0 := Aside0.mk (RD_b0.out.below hbu60)
    replace RD_b1 := Aside0.mk (RD_b1.out.below hbu60)
    replace RD_x0 := Aside0.mk (RD_x0.out.below hbu60)
    replace RD_x1 := Aside0.mk (RD_x1.out.below hbu60)
    replace RD_y0 := Aside0.mk (RD_y0.out.below hbu60)
    replace RD_y1 := Aside0.mk (RD_y1.out.below hbu60)
    replace RD_p0 := Aside0.mk (RD_p0.out.below hbu60)
    replace RD_p1 := Aside0.mk (RD_p1.out.below hbu60)
    replace RD_q0 := Aside0.mk (RD_q0.out.below hbu60)
    replace RD_q1 := Aside0.mk (RD_q1.out.below hbu60)
    replace RD_z0 := Aside0.mk (RD_z0.out.below hbu60)
    replace RD_z1 := Aside0.mk (RD_z1.out.below hbu60)
    replace RD_n0 := Aside0.mk (RD_n0.out.below hbu60)
    replace RD_n1 := Aside0.mk (RD_n1.out.below hbu60)
    replace RD_k0 := Aside0.mk (RD_k0.out.below hbu60)
    replace RD_k1 := Aside0.mk (RD_k1.out.below hbu60)
    replace RD_l0 := Aside0.mk (RD_l0.out.below hbu60)
    replace RD_l1 := Aside0.mk (RD_l1.out.below hbu60)
    replace BW := Aside0.mk (below_then BW.out BW.out.size hbu60)
    clear hbu60 hu60
    go_wp2_with fail
    rw [Hu60.out]
    clear q56 q57 q58 q59
    clear Hu60
    refine (same_r (b := true) E9.out RD_k0.out RD_k1.out RD_l0.out RD_l1.out).mono ?_
    rintro e v61 ⟨rfl, hb⟩
    replace BX_a := Aside0.mk (blk_below BX_a.out hb)
    replace BX_b := Aside0.mk (blk_below BX_b.out hb)
    replace BX_x := Aside0.mk (blk_below BX_x.out hb)
    replace BX_y := Aside0.mk (blk_below BX_y.out hb)
    replace BX_p := Aside0.mk (blk_below BX_p.out hb)
    replace BX_q := Aside0.mk (blk_below BX_q.out hb)
    replace BX_z := Aside0.mk (blk_below BX_z.out hb)
    replace BX_n := Aside0.mk (blk_below BX_n.out hb)
    replace BX_k := Aside0.mk (blk_below BX_k.out hb)
    replace BX_l := Aside0.mk (blk_below BX_l.out hb)
    replace RD_a0 := Aside0.mk (RD_a0.out.below hb)
    replace RD_a1 := Aside0.mk (RD_a1.out.below hb)
    replace RD_b0 := Aside0.mk (RD_b0.out.below hb)
    replace RD_b1 := Aside0.mk (RD_b1.out.below hb)
    replace RD_x0 := Aside0.mk (RD_x0.out.below hb)
    replace RD_x1 := Aside0.mk (RD_x1.out.below hb)
    replace RD_y0 := Aside0.mk (RD_y0.out.below hb)
    replace RD_y1 := Aside0.mk (RD_y1.out.below hb)
    replace RD_p0 := Aside0.mk (RD_p0.out.below hb)
    replace RD_p1 := Aside0.mk (RD_p1.out.below hb)
    replace RD_q0 := Aside0.mk (RD_q0.out.below hb)
    replace RD_q1 := Aside0.mk (RD_q1.out.below hb)
    replace RD_z0 := Aside0.mk (RD_z0.out.below hb)
    replace RD_z1 := Aside0.mk (RD_z1.out.below hb)
    replace RD_n0 := Aside0.mk (RD_n0.out.below hb)
    replace RD_n1 := Aside0.mk (RD_n1.out.below hb)
    replace RD_k0 := Aside0.mk (RD_k0.out.below hb)
    replace RD_k1 := Aside0.mk (RD_k1.out.below hb)
    replace RD_l0 := Aside0.mk (RD_l0.out.below hb)
    replace RD_l1 := Aside0.mk (RD_l1.out.below hb)
    replace BW := Aside0.mk (below_then BW.out BW.out.size hb)
    clear hb
    have q62 : v61.cell? ⟨v19.heap.size, 0, none⟩ = some (.slice Ax sx.length kx) := (blk_cell BX_x.out 0).trans rfl
    have q63 : v61.cell? ⟨v19.heap.size, 1, none⟩ = some (.slice A'x dx.length k'x) := (blk_cell BX_x.out 1).trans rfl
    have q64 : v61.cell? ⟨v25.heap.size, 0, none⟩ = some (.slice Ay sy.length ky) := (blk_cell BX_y.out 0).trans rfl
    have q65 : v61.cell? ⟨v25.heap.size, 1, none⟩ = some (.slice A'y dy.length k'y) := (blk_cell BX_y.out 1).trans rfl
    go_wp2_with fail
    clear q62 q63 q64 q65
    refine (same_r (b := true) E1.out RD_x0.out RD_x1.out RD_y0.out RD_y1.out).mono ?_
    rintro e v66 ⟨rfl, hb⟩
    replace BX_a := Aside0.mk (blk_below BX_a.out hb)
    replace BX_b := Aside0.mk (blk_below BX_b.out hb)
    replace BX_x := Aside0.mk (blk_below BX_x.out hb)
    replace BX_y := Aside0.mk (blk_below BX_y.out hb)
    replace BX_p := Aside0.mk (blk_below BX_p.out hb)
    replace BX_q := Aside0.mk (blk_below BX_q.out hb)
    replace BX_z := Aside0.mk (blk_below BX_z.out hb)
    replace BX_n := Aside0.mk (blk_below BX_n.out hb)
    replace BX_k := Aside0.mk (blk_below BX_k.out hb)
    replace BX_l := Aside0.mk (blk_below BX_l.out hb)
    replace RD_a0 := Aside0.mk (RD_a0.out.below hb)
    replace RD_a1 := Aside0.mk (RD_a1.out.below hb)
    replace RD_b0 := Aside0.mk (RD_b0.out.below hb)
    replace RD_b1 := Aside0.mk (RD_b1.out.below hb)
    replace RD_x0 := Aside0.mk (RD_x0.out.below hb)
    replace RD_x1 := Aside0.mk (RD_x1.out.below hb)
    replace RD_y0 := Aside0.mk (RD_y0.out.below hb)
    replace RD_y1 := Aside0.mk (RD_y1.out.below hb)
    replace RD_p0 := Aside0.mk (RD_p0.out.below hb)
    replace RD_p1 := Aside0.mk (RD_p1.out.below hb)
    replace RD_q0 := Aside0.mk (RD_q0.out.below hb)
    replace RD_q1 := Aside0.mk (RD_q1.out.below hb)
    replace RD_z0 := Aside0.mk (RD_z0.out.below hb)
    replace RD_z1 := Aside0.mk (RD_z1.out.below hb)
    replace RD_n0 := Aside0.mk (RD_n0.out.below hb)
    replace RD_n1 := Aside0.mk (RD_n1.out.below hb)
    replace RD_k0 := Aside0.mk (RD_k0.out.below hb)
    replace RD_k1 := Aside0.mk (RD_k1.out.below hb)
    replace RD_l0 := Aside0.mk (RD_l0.out.below hb)
    replace RD_l1 := Aside0.mk (RD_l1.out.below hb)
    replace BW := Aside0.mk (below_then BW.out BW.out.size hb)
    clear hb
    have q67 : v66.cell? ⟨v31.heap.size, 0, none⟩ = some (.slice Ap sp.length kp) := (blk_cell BX_p.out 0).trans rfl
    have q68 : v66.cell? ⟨v31.heap.size, 1, none⟩ = some (.slice A'p dp.length k'p) := (blk_cell BX_p.out 1).trans rfl
    have q69 : v66.cell? ⟨v37.heap.size, 0, none⟩ = some (.slice Aq sq.length kq) := (blk_cell BX_q.out 0).trans rfl
    have q70 : v66.cell? ⟨v37.heap.size, 1, none⟩ = some (.slice A'q dq.length k'q) := (blk_cell BX_q.out 1).trans rfl
    go_wp2_with fail
    clear q67 q68 q69 q70
    refine (same_r (b := true) E3.out RD_p0.out RD_p1.out RD_q0.out RD_q1.out).mono ?_
    rintro e v71 ⟨rfl, hb⟩
    replace BX_a := Aside0.mk (blk_below BX_a.out hb)
    replace BX_b := Aside0.mk (blk_below BX_b.out hb)
    replace BX_x := Aside0.mk (blk_below BX_x.out hb)
    replace BX_y := Aside0.mk (blk_below BX_y.out hb)
    replace BX_p := Aside0.mk (blk_below BX_p.out hb)
    replace BX_q := Aside0.mk (blk_below BX_q.out hb)
    replace BX_z := Aside0.mk (blk_below BX_z.out hb)
    replace BX_n := Aside0.mk (blk_below BX_n.out hb)
    replace BX_k := Aside0.mk (blk_below BX_k.out hb)
    replace BX_l := Aside0.mk (blk_below BX_l.out hb)
    replace RD_a0 := Aside0.mk (RD_a0.out.below hb)
    replace RD_a1 := Aside0.mk (RD_a1.out.below hb)
    replace RD_b0 := Aside0.mk (RD_b0.out.below hb)
    replace RD_b1 := Aside0.mk (RD_b1.out.below hb)
    replace RD_x0 := Aside0.mk (RD_x0.out.below hb)
    replace RD_x1 := Aside0.mk (RD_x1.out.below hb)
    replace RD_y0 := Aside0.mk (RD_y0.out.below hb)
    replace RD_y1 := Aside0.mk (RD_y1.out.below hb)
    replace RD_p0 := Aside0.mk (RD_p0.out.below hb)
    replace RD_p1 := Aside0.mk (RD_p1.out.below hb)
    replace RD_q0 := Aside0.mk (RD_q0.out.below hb)
    replace RD_q1 := Aside0.mk (RD_q1.out.below hb)
    replace RD_z0 := Aside0.mk (RD_z0.out.below hb)
    replace RD_z1 := Aside0.mk (RD_z1.out.below hb)
    replace RD_n0 := Aside0.mk (RD_n0.out.below hb)
    replace RD_n1 := Aside0.mk (RD_n1.out.below hb)
    replace RD_k0 := Aside0.mk (RD_k0.out.below hb)
    replace RD_k1 := Aside0.mk (RD_k1.out.below hb)
    replace RD_l0 := Aside0.mk (RD_l0.out.below hb)
    replace RD_l1 := Aside0.mk (RD_l1.out.below hb)
    replace BW := Aside0.mk (below_then BW.out BW.out.size hb)
    clear hb
    have q72 : v71.cell? ⟨v41.heap.size, 0, none⟩ = some (.slice Az sz.length kz) := (blk_cell BX_z.out 0).trans rfl
    have q73 : v71.cell? ⟨v41.heap.size, 1, none⟩ = some (.slice A'z dz.length k'z) := (blk_cell BX_z.out 1).trans rfl
    have q74 : v71.cell? ⟨v44.heap.size, 0, none⟩ = some (.slice An sn.length kn) := (blk_cell BX_n.out 0).trans rfl
    have q75 : v71.cell? ⟨v44.heap.size, 1, none⟩ = some (.slice A'n dn.length k'n) := (blk_cell BX_n.out 1).trans rfl
    go_wp2_with fail
    clear q72 q73 q74 q75
    refine (same_r (b := true) E7.out RD_z0.out RD_z1.out RD_n0.out RD_n1.out).mono ?_
    rintro e v76 ⟨rfl, hb⟩
    replace BX_a := Aside0.mk (blk_below BX_a.out hb)
    replace BX_b := Aside0.mk (blk_below BX_b.out hb)
    replace BX_x := Aside0.mk (blk_below BX_x.out hb)
    replace BX_y := Aside0.mk (blk_below BX_y.out hb)
    replace BX_p := Aside0.mk (blk_below BX_p.out hb)
    replace BX_q := Aside0.mk (blk_below BX_q.out hb)
    replace BX_z := Aside0.mk (blk_below BX_z.out hb)
    replace BX_n := Aside0.mk (blk_below BX_n.out hb)
    replace BX_k := Aside0.mk (blk_below BX_k.out hb)
    replace BX_l := Aside0.mk (blk_below BX_l.out hb)
    replace RD_a0 := Aside0.mk (RD_a0.out.below hb)
    replace RD_a1 := Aside0.mk (RD_a1.out.below hb)
    replace RD_b0 := Aside0.mk (RD_b0.out.below hb)
    replace RD_b1 := Aside0.mk (RD_b1.out.below hb)
    replace RD_x0 := Aside0.mk (RD_x0.out.below hb)
    replace RD_x1 := Aside0.mk (RD_x1.out.below hb)
    replace RD_y0 := Aside0.mk (RD_y0.out.below hb)
    replace RD_y1 := Aside0.mk (RD_y1.out.below hb)
    replace RD_p0 := Aside0.mk (RD_p0.out.below hb)
    replace RD_p1 := Aside0.mk (RD_p1.out.below hb)
    replace RD_q0 := Aside0.mk (RD_q0.out.below hb)
    replace RD_q1 := Aside0.mk (RD_q1.out.below hb)
    replace RD_z0 := Aside0.mk (RD_z0.out.below hb)
    replace RD_z1 := Aside0.mk (RD_z1.out.below hb)
    replace RD_n0 := Aside0.mk (RD_n0.out.below hb)
    replace RD_n1 := Aside0.mk (RD_n1.out.below hb)
    replace RD_k0 := Aside0.mk (RD_k0.out.below hb)
    replace RD_k1 := Aside0.mk (RD_k1.out.below hb)
    replace RD_l0 := Aside0.mk (RD_l0.out.below hb)
    replace RD_l1 := Aside0.mk (RD_l1.out.below hb)
    replace BW := Aside0.mk (below_then BW.out BW.out.size hb)
    clear hb
    go_wp2_with fail
    go_ret
    exact ⟨rfl, BW.out⟩
  · have zx : (ex != 0) = true := by simpa using hx
    clear hx
    have q56 : (v55.alloc (Obj.cells #[.slice Al sl.length kl, .slice A'l dl.length k'l] 24)).cell? ⟨v19.heap.size, 0, none⟩ = some (.slice Ax sx.length kx) := (blk_cell (blk_below BX_x.out (below_fold v55 [Obj.cells #[.slice Al sl.length kl, .slice A'l dl.length k'l] 24])) 0).trans rfl
    have q57 : (v55.alloc (Obj.cells #[.slice Al sl.length kl, .slice A'l dl.length k'l] 24)).cell? ⟨v19.heap.size, 1, none⟩ = some (.slice A'x dx.length k'x) := (blk_cell (blk_below BX_x.out (below_fold v55 [Obj.cells #[.slice Al sl.length kl, .slice A'l dl.length k'l] 24])) 1).trans rfl
    have q58 : (v55.alloc (Obj.cells #[.slice Al sl.length kl, .slice A'l dl.length k'l] 24)).cell? ⟨v25.heap.size, 0, none⟩ = some (.slice Ay sy.length ky) := (blk_cell (blk_below BX_y.out (below_fold v55 [Obj.cells #[.slice Al sl.length kl, .slice A'l dl.length k'l] 24])) 0).trans rfl
    have q59 : (v55.alloc (Obj.cells #[.slice Al sl.length kl, .slice A'l dl.length k'l] 24)).cell? ⟨v25.heap.size, 1, none⟩ = some (.slice A'y dy.length k'y) := (blk_cell (blk_below BX_y.out (below_fold v55 [Obj.cells #[.slice Al sl.length kl, .slice A'l dl.length k'l] 24])) 1).trans rfl
    obtain ⟨u60, hu60⟩ : ∃ u, (v55.alloc (Obj.cells #[.slice Al sl.length kl, .slice A'l dl.length k'l] 24)) = u := ⟨_, rfl⟩
    have hbu60 : Below v55.heap.size v55 u60 := by rw [← hu60]; exact below_fold v55 [Obj.cells #[.slice Al sl.length kl, .slice A'l dl.length k'l] 24]
    have BX_l : Aside0 (u60.heap[v55.heap.size]? = some (.cells #[.slice Al sl.length kl, .slice A'l dl.length k'l] 24 (0, 0))) := ⟨by rw [← hu60]; exact blk_fold v55 [Obj.cells #[.slice Al sl.length kl, .slice A'l dl.length k'l] 24] 0 _ rfl⟩
    have Hu60 := Aside0.mk hu60
    replace BX_a := Aside0.mk (blk_below BX_a.out hbu60)
    replace BX_b := Aside0.mk (blk_below BX_b.out hbu60)
    replace BX_x := Aside0.mk (blk_below BX_x.out hbu60)
    replace BX_y := Aside0.mk (blk_below BX_y.out hbu60)
    replace BX_p := Aside0.mk (blk_below BX_p.out hbu60)
    replace BX_q := Aside0.mk (blk_below BX_q.out hbu60)
    replace BX_z := Aside0.mk (blk_below BX_z.out hbu60)
    replace BX_n := Aside0.mk (blk_below BX_n.out hbu60)
    replace BX_k := Aside0.mk (blk_below BX_k.out hbu60)
    replace RD_a0 := Aside0.mk (RD_a0.out.below hbu60)
    replace RD_a1 := Aside0.mk (RD_a1.out.below hbu60)
    replace RD_b0 := Aside0.mk (RD_b0.out.below hbu60)
    replace RD_b1 := Aside0.mk (RD_b1.out.below hbu60)
    replace RD_x0 := Aside0.mk (RD_x0.out.below hbu60)
    replace RD_x1 := Aside0.mk (RD_x1.out.below hbu60)
    replace RD_y0 := Aside0.mk (RD_y0.out.below hbu60)
    replace RD_y1 := Aside0.mk (RD_y1.out.below hbu60)
    replace RD_p0 := Aside0.mk (RD_p0.out.below hbu60)
    replace RD_p1 := Aside0.mk (RD_p1.out.below hbu60)
    replace RD_q0 := Aside0.mk (RD_q0.out.below hbu60)
    replace RD_q1 := Aside0.mk (RD_q1.out.below hbu60)
    replace RD_z0 := Aside0.mk (RD_z0.out.below hbu60)
    replace RD_z1 := Aside0.mk (RD_z1.out.below hbu60)
    replace RD_n0 := Aside0.mk (RD_n0.out.below hbu60)
    replace RD_n1 := Aside0.mk (RD_n1.out.below hbu60)
    replace RD_k0 := Aside0.mk (RD_k0.out.below hbu60)
    replace RD_k1 := Aside0.mk (RD_k1.out.below hbu60)
    replace RD_l0 := Aside0.mk (RD_l0.out.below hbu60)
    replace RD_l1 := Aside0.mk (RD_l1.out.below hbu60)
    replace BW := Aside0.mk (below_then BW.out BW.out.size hbu60)
    clear hbu60 hu60
    go_wp2_with fail
    rw [Hu60.out]
    clear q56 q57 q58 q59
    clear Hu60
    refine (same_r (b := true) E1.out RD_x0.out RD_x1.out RD_y0.out RD_y1.out).mono ?_
    rintro e v61 ⟨rfl, hb⟩
    replace BX_a := Aside0.mk (blk_below BX_a.out hb)
    replace BX_b := Aside0.mk (blk_below BX_b.out hb)
    replace BX_x := Aside0.mk (blk_below BX_x.out hb)
    replace BX_y := Aside0.mk (blk_below BX_y.out hb)
    replace BX_p := Aside0.mk (blk_below BX_p.out hb)
    replace BX_q := Aside0.mk (blk_below BX_q.out hb)
    replace BX_z := Aside0.mk (blk_below BX_z.out hb)
    replace BX_n := Aside0.mk (blk_below BX_n.out hb)
    replace BX_k := Aside0.mk (blk_below BX_k.out hb)
    replace BX_l := Aside0.mk (blk_below BX_l.out hb)
    replace RD_a0 := Aside0.mk (RD_a0.out.below hb)
    replace RD_a1 := Aside0.mk (RD_a1.out.below hb)
    replace RD_b0 := Aside0.mk (RD_b0.out.below hb)
    replace RD_b1 := Aside0.mk (RD_b1.out.below hb)
    replace RD_x0 := Aside0.mk (RD_x0.out.below hb)
    replace RD_x1 := Aside0.mk (RD_x1.out.below hb)
    replace RD_y0 := Aside0.mk (RD_y0.out.below hb)
    replace RD_y1 := Aside0.mk (RD_y1.out.below hb)
    replace RD_p0 := Aside0.mk (RD_p0.out.below hb)
    replace RD_p1 := Aside0.mk (RD_p1.out.below hb)
    replace RD_q0 := Aside0.mk (RD_q0.out.below hb)
    replace RD_q1 := Aside0.mk (RD_q1.out.below hb)
    replace RD_z0 := Aside0.mk (RD_z0.out.below hb)
    replace RD_z1 := Aside0.mk (RD_z1.out.below hb)
    replace RD_n0 := Aside0.mk (RD_n0.out.below hb)
    replace RD_n1 := Aside0.mk (RD_n1.out.below hb)
    replace RD_k0 := Aside0.mk (RD_k0.out.below hb)
    replace RD_k1 := Aside0.mk (RD_k1.out.below hb)
    replace RD_l0 := Aside0.mk (RD_l0.out.below hb)
    replace RD_l1 := Aside0.mk (RD_l1.out.below hb)
    replace BW := Aside0.mk (below_then BW.out BW.out.size hb)
    clear hb
    have q62 : v61.cell? ⟨v31.heap.size, 0, none⟩ = some (.slice Ap sp.length kp) := (blk_cell BX_p.out 0).trans rfl
    have q63 : v61.cell? ⟨v31.heap.size, 1, none⟩ = some (.slice A'p dp.length k'p) := (blk_cell BX_p.out 1).trans rfl
    have q64 : v61.cell? ⟨v37.heap.size, 0, none⟩ = some (.slice Aq sq.length kq) := (blk_cell BX_q.out 0).trans rfl
    have q65 : v61.cell? ⟨v37.heap.size, 1, none⟩ = some (.slice A'q dq.length k'q) := (blk_cell BX_q.out 1).trans rfl
    go_wp2_with fail
    clear q62 q63 q64 q65
    refine (same_r (b := true) E3.out RD_p0.out RD_p1.out RD_q0.out RD_q1.out).mono ?_
    rintro e v66 ⟨rfl, hb⟩
    replace BX_a := Aside0.mk (blk_below BX_a.out hb)
    replace BX_b := Aside0.mk (blk_below BX_b.out hb)
    replace BX_x := Aside0.mk (blk_below BX_x.out hb)
    replace BX_y := Aside0.mk (blk_below BX_y.out hb)
    replace BX_p := Aside0.mk (blk_below BX_p.out hb)
    replace BX_q := Aside0.mk (blk_below BX_q.out hb)
    replace BX_z := Aside0.mk (blk_below BX_z.out hb)
    replace BX_n := Aside0.mk (blk_below BX_n.out hb)
    replace BX_k := Aside0.mk (blk_below BX_k.out hb)
    replace BX_l := Aside0.mk (blk_below BX_l.out hb)
    replace RD_a0 := Aside0.mk (RD_a0.out.below hb)
    replace RD_a1 := Aside0.mk (RD_a1.out.below hb)
    replace RD_b0 := Aside0.mk (RD_b0.out.below hb)
    replace RD_b1 := Aside0.mk (RD_b1.out.below hb)
    replace RD_x0 := Aside0.mk (RD_x0.out.below hb)
    replace RD_x1 := Aside0.mk (RD_x1.out.below hb)
    replace RD_y0 := Aside0.mk (RD_y0.out.below hb)
    replace RD_y1 := Aside0.mk (RD_y1.out.below hb)
    replace RD_p0 := Aside0.mk (RD_p0.out.below hb)
    replace RD_p1 := Aside0.mk (RD_p1.out.below hb)
    replace RD_q0 := Aside0.mk (RD_q0.out.below hb)
    replace RD_q1 := Aside0.mk (RD_q1.out.below hb)
    replace RD_z0 := Aside0.mk (RD_z0.out.below hb)
    replace RD_z1 := Aside0.mk (RD_z1.out.below hb)
    replace RD_n0 := Aside0.mk (RD_n0.out.below hb)
    replace RD_n1 := Aside0.mk (RD_n1.out.below hb)
    replace RD_k0 := Aside0.mk (RD_k0.out.below hb)
    replace RD_k1 := Aside0.mk (RD_k1.out.below hb)
    replace RD_l0 := Aside0.mk (RD_l0.out.below hb)
    replace RD_l1 := Aside0.mk (RD_l1.out.below hb)
    replace BW := Aside0.mk (below_then BW.out BW.out.size hb)
    clear hb
    have q67 : v66.cell? ⟨v41.heap.size, 0, none⟩ = some (.slice Az sz.length kz) := (blk_cell BX_z.out 0).trans rfl
    have q68 : v66.cell? ⟨v41.heap.size, 1, none⟩ = some (.slice A'z dz.length k'z) := (blk_cell BX_z.out 1).trans rfl
    have q69 : v66.cell? ⟨v44.heap.size, 0, none⟩ = some (.slice An sn.length kn) := (blk_cell BX_n.out 0).trans rfl
    have q70 : v66.cell? ⟨v44.heap.size, 1, none⟩ = some (.slice A'n dn.length k'n) := (blk_cell BX_n.out 1).trans rfl
    go_wp2_with fail
    clear q67 q68 q69 q70
    refine (same_r (b := true) E7.out RD_z0.out RD_z1.out RD_n0.out RD_n1.out).mono ?_
    rintro e v71 ⟨rfl, hb⟩
    replace BX_a := Aside0.mk (blk_below BX_a.out hb)
    replace BX_b := Aside0.mk (blk_below BX_b.out hb)
    replace BX_x := Aside0.mk (blk_below BX_x.out hb)
    replace BX_y := Aside0.mk (blk_below BX_y.out hb)
    replace BX_p := Aside0.mk (blk_below BX_p.out hb)
    replace BX_q := Aside0.mk (blk_below BX_q.out hb)
    replace BX_z := Aside0.mk (blk_below BX_z.out hb)
    replace BX_n := Aside0.mk (blk_below BX_n.out hb)
    replace BX_k := Aside0.mk (blk_below BX_k.out hb)
    replace BX_l := Aside0.mk (blk_below BX_l.out hb)
    replace RD_a0 := Aside0.mk (RD_a0.out.below hb)
    replace RD_a1 := Aside0.mk (RD_a1.out.below hb)
    replace RD_b0 := Aside0.mk (RD_b0.out.below hb)
    replace RD_b1 := Aside0.mk (RD_b1.out.below hb)
    replace RD_x0 := Aside0.mk (RD_x0.out.below hb)
    replace RD_x1 := Aside0.mk (RD_x1.out.below hb)
    replace RD_y0 := Aside0.mk (RD_y0.out.below hb)
    replace RD_y1 := Aside0.mk (RD_y1.out.below hb)
    replace RD_p0 := Aside0.mk (RD_p0.out.below hb)
    replace RD_p1 := Aside0.mk (RD_p1.out.below hb)
    replace RD_q0 := Aside0.mk (RD_q0.out.below hb)
    replace RD_q1 := Aside0.mk (RD_q1.out.below hb)
    replace RD_z0 := Aside0.mk (RD_z0.out.below hb)
    replace RD_z1 := Aside0.mk (RD_z1.out.below hb)
    replace RD_n0 := Aside0.mk (RD_n0.out.below hb)
    replace RD_n1 := Aside0.mk (RD_n1.out.below hb)
    replace RD_k0 := Aside0.mk (RD_k0.out.below hb)
    replace RD_k1 := Aside0.mk (RD_k1.out.below hb)
    replace RD_l0 := Aside0.mk (RD_l0.out.below hb)
    replace RD_l1 := Aside0.mk (RD_l1.out.below hb)
    replace BW := Aside0.mk (below_then BW.out BW.out.size hb)
    clear hb
    go_wp2_with fail
    go_ret
    exact ⟨rfl, BW.out⟩
end Go.Proofs.Ytpnigmcpifilmaa.P
