/- The walk of ElemPlaces. -/
import Derived.Deep.RegionHeld3
import Derived.Test.YtpnigmcpifilmaaA19
namespace Go.Proofs.Ytpnigmcpifilmaa.P
open Go.RowKit Go.Shelf Go.Proofs.YtpnigmcpifilmaaW.PrintWords Go.Proofs.YtpnigmcpifilmaaW.PrintLast Go.Proofs.YtpnigmcpifilmaaW.PrintMore
set_option linter.unusedVariables false
set_option linter.unusedSimpArgs false
set_option maxHeartbeats 4000000
set_option maxRecDepth 100000 in
theorem places_bad1 (A0 : Option Addr) (c0 : Nat) (a1 : List Int) (A1 : Option Addr) (c1 : Nat) (a2 : List Int) (A2 : Option Addr) (c2 : Nat) (b1 : List Int) (A3 : Option Addr) (c3 : Nat) (b2 : List Int) (at_ : Int) (w : World)
    (r0 : Rd w (.slice A0 a1.length c0) a1) (r1 : Rd w (.slice A1 a2.length c1) a2) (i1 : allI a2) (r2 : Rd w (.slice A2 b1.length c2) b1) (r3 : Rd w (.slice A3 b2.length c3) b2) (i2 : allI b2) (t0 : 0 ≤ at_) (t1 : at_ < 256) (g : fewB a1 a2 = false) :
    Calls Try.prog 4 #[.agg #[.slice A0 a1.length c0, .slice A1 a2.length c1], .agg #[.slice A2 b1.length c2, .slice A3 b2.length c3], .int .u8 at_] w fun e w' => e = .returned (.bool true) ∧ Below w.heap.size w w' := by
  have G1 := Aside0.mk g
  clear g 
  have RD_a0 := Aside0.mk r0
  have RD_a1 := Aside0.mk r1
  have RD_b0 := Aside0.mk r2
  have RD_b1 := Aside0.mk r3
  have I1 := Aside0.mk i1
  have I2 := Aside0.mk i2
  clear r0 r1 r2 r3 i1 i2
  have BW : Aside0 (Below w.heap.size w w) := ⟨Below.refl _ _⟩
  go_enter Try.func4, Try.ntmps4
  obtain ⟨u1, hu1⟩ : ∃ u, ((w.alloc (Obj.cells #[.slice A0 a1.length c0, .slice A1 a2.length c1] 24)).alloc (Obj.cells #[.slice A2 b1.length c2, .slice A3 b2.length c3] 24)) = u := ⟨_, rfl⟩
  have hbu1 : Below w.heap.size w u1 := by rw [← hu1]; exact below_fold w [Obj.cells #[.slice A0 a1.length c0, .slice A1 a2.length c1] 24, Obj.cells #[.slice A2 b1.length c2, .slice A3 b2.length c3] 24]
  have BX_a : Aside0 (u1.heap[w.heap.size]? = some (.cells #[.slice A0 a1.length c0, .slice A1 a2.length c1] 24 (0, 0))) := ⟨by rw [← hu1]; exact blk_fold w [Obj.cells #[.slice A0 a1.length c0, .slice A1 a2.length c1] 24, Obj.cells #[.slice A2 b1.length c2, .slice A3 b2.length c3] 24] 0 _ rfl⟩
  have BX_b : Aside0 (u1.heap[w.heap.size + 1]? = some (.cells #[.slice A2 b1.length c2, .slice A3 b2.length c3] 24 (0, 0))) := ⟨by rw [← hu1]; exact blk_fold w [Obj.cells #[.slice A0 a1.length c0, .slice A1 a2.length c1] 24, Obj.cells #[.slice A2 b1.length c2, .slice A3 b2.length c3] 24] 1 _ rfl⟩
  have Hu1 := Aside0.mk hu1
  replace RD_a0 := Aside0.mk (RD_a0.out.below hbu1)
  replace RD_a1 := Aside0.mk (RD_a1.out.below hbu1)
  replace RD_b0 := Aside0.mk (RD_b0.out.below hbu1)
  replace RD_b1 := Aside0.mk (RD_b1.out.below hbu1)
  replace BW := Aside0.mk (below_then BW.out BW.out.size hbu1)
  clear hbu1 hu1
  go_wp2_with fail
  rw [Hu1.out]
  clear Hu1
  refine (awake04 _).mono ?_
  rintro e v2 ⟨rfl, hb⟩
  replace BX_a := Aside0.mk (blk_below BX_a.out hb)
  replace BX_b := Aside0.mk (blk_below BX_b.out hb)
  replace RD_a0 := Aside0.mk (RD_a0.out.below hb)
  replace RD_a1 := Aside0.mk (RD_a1.out.below hb)
  replace RD_b0 := Aside0.mk (RD_b0.out.below hb)
  replace RD_b1 := Aside0.mk (RD_b1.out.below hb)
  replace BW := Aside0.mk (below_then BW.out BW.out.size hb)
  clear hb
  have q3 : v2.cell? ⟨w.heap.size, 0, none⟩ = some (.slice A0 a1.length c0) := (blk_cell BX_a.out 0).trans rfl
  have q4 : v2.cell? ⟨w.heap.size, 1, none⟩ = some (.slice A1 a2.length c1) := (blk_cell BX_a.out 1).trans rfl
  go_wp2_with fail
  clear q3 q4
  refine (few_r (b := false) (s := a1) (d := a2) G1.out).mono ?_
  rintro e v5 ⟨rfl, hb⟩
  replace BX_a := Aside0.mk (blk_below BX_a.out hb)
  replace BX_b := Aside0.mk (blk_below BX_b.out hb)
  replace RD_a0 := Aside0.mk (RD_a0.out.below hb)
  replace RD_a1 := Aside0.mk (RD_a1.out.below hb)
  replace RD_b0 := Aside0.mk (RD_b0.out.below hb)
  replace RD_b1 := Aside0.mk (RD_b1.out.below hb)
  replace BW := Aside0.mk (below_then BW.out BW.out.size hb)
  clear hb
  go_wp2_with fail
  go_ret
  exact ⟨rfl, BW.out⟩
set_option maxRecDepth 100000 in
theorem places_bad2 (A0 : Option Addr) (c0 : Nat) (a1 : List Int) (A1 : Option Addr) (c1 : Nat) (a2 : List Int) (A2 : Option Addr) (c2 : Nat) (b1 : List Int) (A3 : Option Addr) (c3 : Nat) (b2 : List Int) (at_ : Int) (w : World)
    (r0 : Rd w (.slice A0 a1.length c0) a1) (r1 : Rd w (.slice A1 a2.length c1) a2) (i1 : allI a2) (r2 : Rd w (.slice A2 b1.length c2) b1) (r3 : Rd w (.slice A3 b2.length c3) b2) (i2 : allI b2) (t0 : 0 ≤ at_) (t1 : at_ < 256) (g1 : fewB a1 a2 = true) (g : fewB b1 b2 = false) :
    Calls Try.prog 4 #[.agg #[.slice A0 a1.length c0, .slice A1 a2.length c1], .agg #[.slice A2 b1.length c2, .slice A3 b2.length c3], .int .u8 at_] w fun e w' => e = .returned (.bool true) ∧ Below w.heap.size w w' := by
  have G1 := Aside0.mk g1
  have G2 := Aside0.mk g
  clear g g1
  have RD_a0 := Aside0.mk r0
  have RD_a1 := Aside0.mk r1
  have RD_b0 := Aside0.mk r2
  have RD_b1 := Aside0.mk r3
  have I1 := Aside0.mk i1
  have I2 := Aside0.mk i2
  clear r0 r1 r2 r3 i1 i2
  have BW : Aside0 (Below w.heap.size w w) := ⟨Below.refl _ _⟩
  go_enter Try.func4, Try.ntmps4
  obtain ⟨u1, hu1⟩ : ∃ u, ((w.alloc (Obj.cells #[.slice A0 a1.length c0, .slice A1 a2.length c1] 24)).alloc (Obj.cells #[.slice A2 b1.length c2, .slice A3 b2.length c3] 24)) = u := ⟨_, rfl⟩
  have hbu1 : Below w.heap.size w u1 := by rw [← hu1]; exact below_fold w [Obj.cells #[.slice A0 a1.length c0, .slice A1 a2.length c1] 24, Obj.cells #[.slice A2 b1.length c2, .slice A3 b2.length c3] 24]
  have BX_a : Aside0 (u1.heap[w.heap.size]? = some (.cells #[.slice A0 a1.length c0, .slice A1 a2.length c1] 24 (0, 0))) := ⟨by rw [← hu1]; exact blk_fold w [Obj.cells #[.slice A0 a1.length c0, .slice A1 a2.length c1] 24, Obj.cells #[.slice A2 b1.length c2, .slice A3 b2.length c3] 24] 0 _ rfl⟩
  have BX_b : Aside0 (u1.heap[w.heap.size + 1]? = some (.cells #[.slice A2 b1.length c2, .slice A3 b2.length c3] 24 (0, 0))) := ⟨by rw [← hu1]; exact blk_fold w [Obj.cells #[.slice A0 a1.length c0, .slice A1 a2.length c1] 24, Obj.cells #[.slice A2 b1.length c2, .slice A3 b2.length c3] 24] 1 _ rfl⟩
  have Hu1 := Aside0.mk hu1
  replace RD_a0 := Aside0.mk (RD_a0.out.below hbu1)
  replace RD_a1 := Aside0.mk (RD_a1.out.below hbu1)
  replace RD_b0 := Aside0.mk (RD_b0.out.below hbu1)
  replace RD_b1 := Aside0.mk (RD_b1.out.below hbu1)
  replace BW := Aside0.mk (below_then BW.out BW.out.size hbu1)
  clear hbu1 hu1
  go_wp2_with fail
  rw [Hu1.out]
  clear Hu1
  refine (awake04 _).mono ?_
  rintro e v2 ⟨rfl, hb⟩
  replace BX_a := Aside0.mk (blk_below BX_a.out hb)
  replace BX_b := Aside0.mk (blk_below BX_b.out hb)
  replace RD_a0 := Aside0.mk (RD_a0.out.below hb)
  replace RD_a1 := Aside0.mk (RD_a1.out.below hb)
  replace RD_b0 := Aside0.mk (RD_b0.out.below hb)
  replace RD_b1 := Aside0.mk (RD_b1.out.below hb)
  replace BW := Aside0.mk (below_then BW.out BW.out.size hb)
  clear hb
  have q3 : v2.cell? ⟨w.heap.size, 0, none⟩ = some (.slice A0 a1.length c0) := (blk_cell BX_a.out 0).trans rfl
  have q4 : v2.cell? ⟨w.heap.size, 1, none⟩ = some (.slice A1 a2.length c1) := (blk_cell BX_a.out 1).trans rfl
  go_wp2_with fail
  clear q3 q4
  refine (few_r (b := true) (s := a1) (d := a2) G1.out).mono ?_
  rintro e v5 ⟨rfl, hb⟩
  replace BX_a := Aside0.mk (blk_below BX_a.out hb)
  replace BX_b := Aside0.mk (blk_below BX_b.out hb)
  replace RD_a0 := Aside0.mk (RD_a0.out.below hb)
  replace RD_a1 := Aside0.mk (RD_a1.out.below hb)
  replace RD_b0 := Aside0.mk (RD_b0.out.below hb)
  replace RD_b1 := Aside0.mk (RD_b1.out.below hb)
  replace BW := Aside0.mk (below_then BW.out BW.out.size hb)
  clear hb
  have q6 : v5.cell? ⟨w.heap.size + 1, 0, none⟩ = some (.slice A2 b1.length c2) := (blk_cell BX_b.out 0).trans rfl
  have q7 : v5.cell? ⟨w.heap.size + 1, 1, none⟩ = some (.slice A3 b2.length c3) := (blk_cell BX_b.out 1).trans rfl
  go_wp2_with fail
  clear q6 q7
  refine (few_r (b := false) (s := b1) (d := b2) G2.out).mono ?_
  rintro e v8 ⟨rfl, hb⟩
  replace BX_a := Aside0.mk (blk_below BX_a.out hb)
  replace BX_b := Aside0.mk (blk_below BX_b.out hb)
  replace RD_a0 := Aside0.mk (RD_a0.out.below hb)
  replace RD_a1 := Aside0.mk (RD_a1.out.below hb)
  replace RD_b0 := Aside0.mk (RD_b0.out.below hb)
  replace RD_b1 := Aside0.mk (RD_b1.out.below hb)
  replace BW := Aside0.mk (below_then BW.out BW.out.size hb)
  clear hb
  go_wp2_with fail
  go_ret
  exact ⟨rfl, BW.out⟩
set_option maxRecDepth 100000 in
theorem places_err (A0 : Option Addr) (c0 : Nat) (a1 : List Int) (A1 : Option Addr) (c1 : Nat) (a2 : List Int) (A2 : Option Addr) (c2 : Nat) (b1 : List Int) (A3 : Option Addr) (c3 : Nat) (b2 : List Int) (at_ : Int) (w : World)
    (r0 : Rd w (.slice A0 a1.length c0) a1) (r1 : Rd w (.slice A1 a2.length c1) a2) (i1 : allI a2) (r2 : Rd w (.slice A2 b1.length c2) b1) (r3 : Rd w (.slice A3 b2.length c3) b2) (i2 : allI b2) (t0 : 0 ≤ at_) (t1 : at_ < 256) (g1 : fewB a1 a2 = true) (g2 : fewB b1 b2 = true) (ep : Int) (hp : elemTwo 12 a1 a2 b1 b2 = (([], []), ep)) (e1 : ¬ ep = 0) :
    Calls Try.prog 4 #[.agg #[.slice A0 a1.length c0, .slice A1 a2.length c1], .agg #[.slice A2 b1.length c2, .slice A3 b2.length c3], .int .u8 at_] w fun e w' => e = .returned (.bool true) ∧ Below w.heap.size w w' := by
  have G1 := Aside0.mk g1
  have G2 := Aside0.mk g2
  have Hp := Aside0.mk hp
  have z1 : (ep != 0) = true := by simpa using e1
  clear g1 g2 hp e1
  have RD_a0 := Aside0.mk r0
  have RD_a1 := Aside0.mk r1
  have RD_b0 := Aside0.mk r2
  have RD_b1 := Aside0.mk r3
  have I1 := Aside0.mk i1
  have I2 := Aside0.mk i2
  clear r0 r1 r2 r3 i1 i2
  have BW : Aside0 (Below w.heap.size w w) := ⟨Below.refl _ _⟩
  go_enter Try.func4, Try.ntmps4
  obtain ⟨u1, hu1⟩ : ∃ u, ((w.alloc (Obj.cells #[.slice A0 a1.length c0, .slice A1 a2.length c1] 24)).alloc (Obj.cells #[.slice A2 b1.length c2, .slice A3 b2.length c3] 24)) = u := ⟨_, rfl⟩
  have hbu1 : Below w.heap.size w u1 := by rw [← hu1]; exact below_fold w [Obj.cells #[.slice A0 a1.length c0, .slice A1 a2.length c1] 24, Obj.cells #[.slice A2 b1.length c2, .slice A3 b2.length c3] 24]
  have BX_a : Aside0 (u1.heap[w.heap.size]? = some (.cells #[.slice A0 a1.length c0, .slice A1 a2.length c1] 24 (0, 0))) := ⟨by rw [← hu1]; exact blk_fold w [Obj.cells #[.slice A0 a1.length c0, .slice A1 a2.length c1] 24, Obj.cells #[.slice A2 b1.length c2, .slice A3 b2.length c3] 24] 0 _ rfl⟩
  have BX_b : Aside0 (u1.heap[w.heap.size + 1]? = some (.cells #[.slice A2 b1.length c2, .slice A3 b2.length c3] 24 (0, 0))) := ⟨by rw [← hu1]; exact blk_fold w [Obj.cells #[.slice A0 a1.length c0, .slice A1 a2.length c1] 24, Obj.cells #[.slice A2 b1.length c2, .slice A3 b2.length c3] 24] 1 _ rfl⟩
  have Hu1 := Aside0.mk hu1
  replace RD_a0 := Aside0.mk (RD_a0.out.below hbu1)
  replace RD_a1 := Aside0.mk (RD_a1.out.below hbu1)
  replace RD_b0 := Aside0.mk (RD_b0.out.below hbu1)
  replace RD_b1 := Aside0.mk (RD_b1.out.below hbu1)
  replace BW := Aside0.mk (below_then BW.out BW.out.size hbu1)
  clear hbu1 hu1
  go_wp2_with fail
  rw [Hu1.out]
  clear Hu1
  refine (awake04 _).mono ?_
  rintro e v2 ⟨rfl, hb⟩
  replace BX_a := Aside0.mk (blk_below BX_a.out hb)
  replace BX_b := Aside0.mk (blk_below BX_b.out hb)
  replace RD_a0 := Aside0.mk (RD_a0.out.below hb)
  replace RD_a1 := Aside0.mk (RD_a1.out.below hb)
  replace RD_b0 := Aside0.mk (RD_b0.out.below hb)
  replace RD_b1 := Aside0.mk (RD_b1.out.below hb)
  replace BW := Aside0.mk (below_then BW.out BW.out.size hb)
  clear hb
  have q3 : v2.cell? ⟨w.heap.size, 0, none⟩ = some (.slice A0 a1.length c0) := (blk_cell BX_a.out 0).trans rfl
  have q4 : v2.cell? ⟨w.heap.size, 1, none⟩ = some (.slice A1 a2.length c1) := (blk_cell BX_a.out 1).trans rfl
  go_wp2_with fail
  clear q3 q4
  refine (few_r (b := true) (s := a1) (d := a2) G1.out).mono ?_
  rintro e v5 ⟨rfl, hb⟩
  replace BX_a := Aside0.mk (blk_below BX_a.out hb)
  replace BX_b := Aside0.mk (blk_below BX_b.out hb)
  replace RD_a0 := Aside0.mk (RD_a0.out.below hb)
  replace RD_a1 := Aside0.mk (RD_a1.out.below hb)
  replace RD_b0 := Aside0.mk (RD_b0.out.below hb)
  replace RD_b1 := Aside0.mk (RD_b1.out.below hb)
  replace BW := Aside0.mk (below_then BW.out BW.out.size hb)
  clear hb
  have q6 : v5.cell? ⟨w.heap.size + 1, 0, none⟩ = some (.slice A2 b1.length c2) := (blk_cell BX_b.out 0).trans rfl
  have q7 : v5.cell? ⟨w.heap.size + 1, 1, none⟩ = some (.slice A3 b2.length c3) := (blk_cell BX_b.out 1).trans rfl
  go_wp2_with fail
  clear q6 q7
  refine (few_r (b := true) (s := b1) (d := b2) G2.out).mono ?_
  rintro e v8 ⟨rfl, hb⟩
  replace BX_a := Aside0.mk (blk_below BX_a.out hb)
  replace BX_b := Aside0.mk (blk_below BX_b.out hb)
  replace RD_a0 := Aside0.mk (RD_a0.out.below hb)
  replace RD_a1 := Aside0.mk (RD_a1.out.below hb)
  replace RD_b0 := Aside0.mk (RD_b0.out.below hb)
  replace RD_b1 := Aside0.mk (RD_b1.out.below hb)
  replace BW := Aside0.mk (below_then BW.out BW.out.size hb)
  clear hb
  have q9 : v8.cell? ⟨w.heap.size, 0, none⟩ = some (.slice A0 a1.length c0) := (blk_cell BX_a.out 0).trans rfl
  have q10 : v8.cell? ⟨w.heap.size, 1, none⟩ = some (.slice A1 a2.length c1) := (blk_cell BX_a.out 1).trans rfl
  have q11 : v8.cell? ⟨w.heap.size + 1, 0, none⟩ = some (.slice A2 b1.length c2) := (blk_cell BX_b.out 0).trans rfl
  have q12 : v8.cell? ⟨w.heap.size + 1, 1, none⟩ = some (.slice A3 b2.length c3) := (blk_cell BX_b.out 1).trans rfl
  go_wp2_with fail
  clear q9 q10 q11 q12
  refine (two_r 12 Hp.out RD_a0.out RD_a1.out RD_b0.out RD_b1.out I1.out I2.out).mono ?_
  rintro e v13 ⟨Ap, kp, A'p, k'p, rfl, r0, r1, hb⟩
  have RD_p0 := Aside0.mk r0
  have RD_p1 := Aside0.mk r1
  replace BX_a := Aside0.mk (blk_below BX_a.out hb)
  replace BX_b := Aside0.mk (blk_below BX_b.out hb)
  replace RD_a0 := Aside0.mk (RD_a0.out.below hb)
  replace RD_a1 := Aside0.mk (RD_a1.out.below hb)
  replace RD_b0 := Aside0.mk (RD_b0.out.below hb)
  replace RD_b1 := Aside0.mk (RD_b1.out.below hb)
  replace BW := Aside0.mk (below_then BW.out BW.out.size hb)
  clear hb r0 r1
  have BWN : Aside0 (Below w.heap.size w (v13.alloc (Obj.cells #[.slice Ap 0 kp, .slice A'p 0 k'p] 24))) := ⟨below_then BW.out BW.out.size (below_alloc (Below.refl _ _) _)⟩
  go_wp2_with fail
  go_ret
  exact ⟨rfl, BWN.out⟩
set_option maxRecDepth 100000 in
theorem places_good (A0 : Option Addr) (c0 : Nat) (a1 : List Int) (A1 : Option Addr) (c1 : Nat) (a2 : List Int) (A2 : Option Addr) (c2 : Nat) (b1 : List Int) (A3 : Option Addr) (c3 : Nat) (b2 : List Int) (at_ : Int) (w : World)
    (r0 : Rd w (.slice A0 a1.length c0) a1) (r1 : Rd w (.slice A1 a2.length c1) a2) (i1 : allI a2) (r2 : Rd w (.slice A2 b1.length c2) b1) (r3 : Rd w (.slice A3 b2.length c3) b2) (i2 : allI b2) (t0 : 0 ≤ at_) (t1 : at_ < 256) (g1 : fewB a1 a2 = true) (g2 : fewB b1 b2 = true) (S D dx dy : List Int) (hp : elemTwo 12 a1 a2 b1 b2 = ((S, D), 0)) (hx : spreadT a1 a2 S = ((S, dx), 0)) (hy : spreadT b1 b2 S = ((S, dy), 0))
    (k : Nat) (hk : at_ % (D.length : Int) = (k : Int)) (kl : k < D.length) (lx : dx.length = D.length) (ly : dy.length = D.length) (l64 : D.length ≤ 64) (hm : mulF (rd dx k) (rd dy k) = (rd D k, 0)) (ix : isI64 (rd dx k)) (iy : isI64 (rd dy k)) (ht : tOk S D = true) :
    Calls Try.prog 4 #[.agg #[.slice A0 a1.length c0, .slice A1 a2.length c1], .agg #[.slice A2 b1.length c2, .slice A3 b2.length c3], .int .u8 at_] w fun e w' => e = .returned (.bool true) ∧ Below w.heap.size w w' := by
  have G1 := Aside0.mk g1
  have G2 := Aside0.mk g2
  have Hp := Aside0.mk hp
  have Hx := Aside0.mk hx
  have Hy := Aside0.mk hy
  have HM := Aside0.mk (And.intro hm (And.intro ix (And.intro iy ht)))
  have L := Aside0.mk (And.intro kl (And.intro lx (And.intro ly l64)))
  have n1 : ((D.length : Int) == 0) = false := by rw [beq_eq_false_iff_ne]; omega
  have n2 : ((dx.length : Int) != (D.length : Int)) = false := by rw [bne_eq_false_iff_eq]; omega
  have n3 : ((dy.length : Int) != (D.length : Int)) = false := by rw [bne_eq_false_iff_eq]; omega
  have n4 : ¬ ((D.length : Int) = 0) := by omega
  have w1 : IntKind.i64.wrap at_ = at_ := wrap_in _ ⟨by omega, by omega⟩
  have w2 : at_.tmod (D.length : Int) = (k : Int) := by rw [Int.tmod_eq_emod_of_nonneg t0]; exact hk
  have k1 : k < dx.length := by omega
  have k2 : k < dy.length := by omega
  clear g1 g2 hp hx hy hm ix iy ht lx ly hk t0 t1
  have RD_a0 := Aside0.mk r0
  have RD_a1 := Aside0.mk r1
  have RD_b0 := Aside0.mk r2
  have RD_b1 := Aside0.mk r3
  have I1 := Aside0.mk i1
  have I2 := Aside0.mk i2
  clear r0 r1 r2 r3 i1 i2
  have BW : Aside0 (Below w.heap.size w w) := ⟨Below.refl _ _⟩
  go_enter Try.func4, Try.ntmps4
  obtain ⟨u1, hu1⟩ : ∃ u, ((w.alloc (Obj.cells #[.slice A0 a1.length c0, .slice A1 a2.length c1] 24)).alloc (Obj.cells #[.slice A2 b1.length c2, .slice A3 b2.length c3] 24)) = u := ⟨_, rfl⟩
  have hbu1 : Below w.heap.size w u1 := by rw [← hu1]; exact below_fold w [Obj.cells #[.slice A0 a1.length c0, .slice A1 a2.length c1] 24, Obj.cells #[.slice A2 b1.length c2, .slice A3 b2.length c3] 24]
  have BX_a : Aside0 (u1.heap[w.heap.size]? = some (.cells #[.slice A0 a1.length c0, .slice A1 a2.length c1] 24 (0, 0))) := ⟨by rw [← hu1]; exact blk_fold w [Obj.cells #[.slice A0 a1.length c0, .slice A1 a2.length c1] 24, Obj.cells #[.slice A2 b1.length c2, .slice A3 b2.length c3] 24] 0 _ rfl⟩
  have BX_b : Aside0 (u1.heap[w.heap.size + 1]? = some (.cells #[.slice A2 b1.length c2, .slice A3 b2.length c3] 24 (0, 0))) := ⟨by rw [← hu1]; exact blk_fold w [Obj.cells #[.slice A0 a1.length c0, .slice A1 a2.length c1] 24, Obj.cells #[.slice A2 b1.length c2, .slice A3 b2.length c3] 24] 1 _ rfl⟩
  have Hu1 := Aside0.mk hu1
  replace RD_a0 := Aside0.mk (RD_a0.out.below hbu1)
  replace RD_a1 := Aside0.mk (RD_a1.out.below hbu1)
  replace RD_b0 := Aside0.mk (RD_b0.out.below hbu1)
  replace RD_b1 := Aside0.mk (RD_b1.out.below hbu1)
  replace BW := Aside0.mk (below_then BW.out BW.out.size hbu1)
  clear hbu1 hu1
  go_wp2_with fail
  rw [Hu1.out]
  clear Hu1
  refine (awake04 _).mono ?_
  rintro e v2 ⟨rfl, hb⟩
  replace BX_a := Aside0.mk (blk_below BX_a.out hb)
  replace BX_b := Aside0.mk (blk_below BX_b.out hb)
  replace RD_a0 := Aside0.mk (RD_a0.out.below hb)
  replace RD_a1 := Aside0.mk (RD_a1.out.below hb)
  replace RD_b0 := Aside0.mk (RD_b0.out.below hb)
  replace RD_b1 := Aside0.mk (RD_b1.out.below hb)
  replace BW := Aside0.mk (below_then BW.out BW.out.size hb)
  clear hb
  have q3 : v2.cell? ⟨w.heap.size, 0, none⟩ = some (.slice A0 a1.length c0) := (blk_cell BX_a.out 0).trans rfl
  have q4 : v2.cell? ⟨w.heap.size, 1, none⟩ = some (.slice A1 a2.length c1) := (blk_cell BX_a.out 1).trans rfl
  go_wp2_with fail
  clear q3 q4
  refine (few_r (b := true) (s := a1) (d := a2) G1.out).mono ?_
  rintro e v5 ⟨rfl, hb⟩
  replace BX_a := Aside0.mk (blk_below BX_a.out hb)
  replace BX_b := Aside0.mk (blk_below BX_b.out hb)
  replace RD_a0 := Aside0.mk (RD_a0.out.below hb)
  replace RD_a1 := Aside0.mk (RD_a1.out.below hb)
  replace RD_b0 := Aside0.mk (RD_b0.out.below hb)
  replace RD_b1 := Aside0.mk (RD_b1.out.below hb)
  replace BW := Aside0.mk (below_then BW.out BW.out.size hb)
  clear hb
  have q6 : v5.cell? ⟨w.heap.size + 1, 0, none⟩ = some (.slice A2 b1.length c2) := (blk_cell BX_b.out 0).trans rfl
  have q7 : v5.cell? ⟨w.heap.size + 1, 1, none⟩ = some (.slice A3 b2.length c3) := (blk_cell BX_b.out 1).trans rfl
  go_wp2_with fail
  clear q6 q7
  refine (few_r (b := true) (s := b1) (d := b2) G2.out).mono ?_
  rintro e v8 ⟨rfl, hb⟩
  replace BX_a := Aside0.mk (blk_below BX_a.out hb)
  replace BX_b := Aside0.mk (blk_below BX_b.out hb)
  replace RD_a0 := Aside0.mk (RD_a0.out.below hb)
  replace RD_a1 := Aside0.mk (RD_a1.out.below hb)
  replace RD_b0 := Aside0.mk (RD_b0.out.below hb)
  replace RD_b1 := Aside0.mk (RD_b1.out.below hb)
  replace BW := Aside0.mk (below_then BW.out BW.out.size hb)
  clear hb
  have q9 : v8.cell? ⟨w.heap.size, 0, none⟩ = some (.slice A0 a1.length c0) := (blk_cell BX_a.out 0).trans rfl
  have q10 : v8.cell? ⟨w.heap.size, 1, none⟩ = some (.slice A1 a2.length c1) := (blk_cell BX_a.out 1).trans rfl
  have q11 : v8.cell? ⟨w.heap.size + 1, 0, none⟩ = some (.slice A2 b1.length c2) := (blk_cell BX_b.out 0).trans rfl
  have q12 : v8.cell? ⟨w.heap.size + 1, 1, none⟩ = some (.slice A3 b2.length c3) := (blk_cell BX_b.out 1).trans rfl
  go_wp2_with fail
  clear q9 q10 q11 q12
  refine (two_r 12 Hp.out RD_a0.out RD_a1.out RD_b0.out RD_b1.out I1.out I2.out).mono ?_
  rintro e v13 ⟨Ap, kp, A'p, k'p, rfl, r0, r1, hb⟩
  have RD_p0 := Aside0.mk r0
  have RD_p1 := Aside0.mk r1
  replace BX_a := Aside0.mk (blk_below BX_a.out hb)
  replace BX_b := Aside0.mk (blk_below BX_b.out hb)
  replace RD_a0 := Aside0.mk (RD_a0.out.below hb)
  replace RD_a1 := Aside0.mk (RD_a1.out.below hb)
  replace RD_b0 := Aside0.mk (RD_b0.out.below hb)
  replace RD_b1 := Aside0.mk (RD_b1.out.below hb)
  replace BW := Aside0.mk (below_then BW.out BW.out.size hb)
  clear hb r0 r1
  have q14 : (v13.alloc (Obj.cells #[.slice Ap S.length kp, .slice A'p D.length k'p] 24)).cell? ⟨w.heap.size, 0, none⟩ = some (.slice A0 a1.length c0) := (blk_cell (blk_below BX_a.out (below_fold v13 [Obj.cells #[.slice Ap S.length kp, .slice A'p D.length k'p] 24])) 0).trans rfl
  have q15 : (v13.alloc (Obj.cells #[.slice Ap S.length kp, .slice A'p D.length k'p] 24)).cell? ⟨w.heap.size, 1, none⟩ = some (.slice A1 a2.length c1) := (blk_cell (blk_below BX_a.out (below_fold v13 [Obj.cells #[.slice Ap S.length kp, .slice A'p D.length k'p] 24])) 1).trans rfl
  have q16 : (v13.alloc (Obj.cells #[.slice Ap S.length kp, .slice A'p D.length k'p] 24)).cell? ⟨v13.heap.size, 0, none⟩ = some (.slice Ap S.length kp) := (blk_cell (blk_fold v13 [Obj.cells #[.slice Ap S.length kp, .slice A'p D.length k'p] 24] 0 _ rfl) 0).trans rfl
  have q17 : (v13.alloc (Obj.cells #[.slice Ap S.length kp, .slice A'p D.length k'p] 24)).cell? ⟨v13.heap.size, 1, none⟩ = some (.slice A'p D.length k'p) := (blk_cell (blk_fold v13 [Obj.cells #[.slice Ap S.length kp, .slice A'p D.length k'p] 24] 0 _ rfl) 1).trans rfl
  obtain ⟨u18, hu18⟩ : ∃ u, (v13.alloc (Obj.cells #[.slice Ap S.length kp, .slice A'p D.length k'p] 24)) = u := ⟨_, rfl⟩
  have hbu18 : Below v13.heap.size v13 u18 := by rw [← hu18]; exact below_fold v13 [Obj.cells #[.slice Ap S.length kp, .slice A'p D.length k'p] 24]
  have BX_p : Aside0 (u18.heap[v13.heap.size]? = some (.cells #[.slice Ap S.length kp, .slice A'p D.length k'p] 24 (0, 0))) := ⟨by rw [← hu18]; exact blk_fold v13 [Obj.cells #[.slice Ap S.length kp, .slice A'p D.length k'p] 24] 0 _ rfl⟩
  have Hu18 := Aside0.mk hu18
  replace BX_a := Aside0.mk (blk_below BX_a.out hbu18)
  replace BX_b := Aside0.mk (blk_below BX_b.out hbu18)
  replace RD_a0 := Aside0.mk (RD_a0.out.below hbu18)
  replace RD_a1 := Aside0.mk (RD_a1.out.below hbu18)
  replace RD_b0 := Aside0.mk (RD_b0.out.below hbu18)
  replace RD_b1 := Aside0.mk (RD_b1.out.below hbu18)
  replace RD_p0 := Aside0.mk (RD_p0.out.below hbu18)
  replace RD_p1 := Aside0.mk (RD_p1.out.below hbu18)
  replace BW := Aside0.mk (below_then BW.out BW.out.size hbu18)
  clear hbu18 hu18
  go_wp2_with fail
  rw [Hu18.out]
  clear q14 q15 q16 q17
  clear Hu18
  refine (spread_r Hx.out RD_a0.out RD_a1.out RD_p0.out).mono ?_
  rintro e v19 ⟨Ax, kx, A'x, k'x, rfl, r0, r1, hb⟩
  have RD_x0 := Aside0.mk r0
  have RD_x1 := Aside0.mk r1
  replace BX_a := Aside0.mk (blk_below BX_a.out hb)
  replace BX_b := Aside0.mk (blk_below BX_b.out hb)
  replace BX_p := Aside0.mk (blk_below BX_p.out hb)
  replace RD_a0 := Aside0.mk (RD_a0.out.below hb)
  replace RD_a1 := Aside0.mk (RD_a1.out.below hb)
  replace RD_b0 := Aside0.mk (RD_b0.out.below hb)
  replace RD_b1 := Aside0.mk (RD_b1.out.below hb)
  replace RD_p0 := Aside0.mk (RD_p0.out.below hb)
  replace RD_p1 := Aside0.mk (RD_p1.out.below hb)
  replace BW := Aside0.mk (below_then BW.out BW.out.size hb)
  clear hb r0 r1
  have q20 : (v19.alloc (Obj.cells #[.slice Ax S.length kx, .slice A'x dx.length k'x] 24)).cell? ⟨w.heap.size + 1, 0, none⟩ = some (.slice A2 b1.length c2) := (blk_cell (blk_below BX_b.out (below_fold v19 [Obj.cells #[.slice Ax S.length kx, .slice A'x dx.length k'x] 24])) 0).trans rfl
  have q21 : (v19.alloc (Obj.cells #[.slice Ax S.length kx, .slice A'x dx.length k'x] 24)).cell? ⟨w.heap.size + 1, 1, none⟩ = some (.slice A3 b2.length c3) := (blk_cell (blk_below BX_b.out (below_fold v19 [Obj.cells #[.slice Ax S.length kx, .slice A'x dx.length k'x] 24])) 1).trans rfl
  have q22 : (v19.alloc (Obj.cells #[.slice Ax S.length kx, .slice A'x dx.length k'x] 24)).cell? ⟨v13.heap.size, 0, none⟩ = some (.slice Ap S.length kp) := (blk_cell (blk_below BX_p.out (below_fold v19 [Obj.cells #[.slice Ax S.length kx, .slice A'x dx.length k'x] 24])) 0).trans rfl
  have q23 : (v19.alloc (Obj.cells #[.slice Ax S.length kx, .slice A'x dx.length k'x] 24)).cell? ⟨v13.heap.size, 1, none⟩ = some (.slice A'p D.length k'p) := (blk_cell (blk_below BX_p.out (below_fold v19 [Obj.cells #[.slice Ax S.length kx, .slice A'x dx.length k'x] 24])) 1).trans rfl
  obtain ⟨u24, hu24⟩ : ∃ u, (v19.alloc (Obj.cells #[.slice Ax S.length kx, .slice A'x dx.length k'x] 24)) = u := ⟨_, rfl⟩
  have hbu24 : Below v19.heap.size v19 u24 := by rw [← hu24]; exact below_fold v19 [Obj.cells #[.slice Ax S.length kx, .slice A'x dx.length k'x] 24]
  have BX_x : Aside0 (u24.heap[v19.heap.size]? = some (.cells #[.slice Ax S.length kx, .slice A'x dx.length k'x] 24 (0, 0))) := ⟨by rw [← hu24]; exact blk_fold v19 [Obj.cells #[.slice Ax S.length kx, .slice A'x dx.length k'x] 24] 0 _ rfl⟩
  have Hu24 := Aside0.mk hu24
  replace BX_a := Aside0.mk (blk_below BX_a.out hbu24)
  replace BX_b := Aside0.mk (blk_below BX_b.out hbu24)
  replace BX_p := Aside0.mk (blk_below BX_p.out hbu24)
  replace RD_a0 := Aside0.mk (RD_a0.out.below hbu24)
  replace RD_a1 := Aside0.mk (RD_a1.out.below hbu24)
  replace RD_b0 := Aside0.mk (RD_b0.out.below hbu24)
  replace RD_b1 := Aside0.mk (RD_b1.out.below hbu24)
  replace RD_p0 := Aside0.mk (RD_p0.out.below hbu24)
  replace RD_p1 := Aside0.mk (RD_p1.out.below hbu24)
  replace RD_x0 := Aside0.mk (RD_x0.out.below hbu24)
  replace RD_x1 := Aside0.mk (RD_x1.out.below hbu24)
  replace BW := Aside0.mk (below_then BW.out BW.out.size hbu24)
  clear hbu24 hu24
  go_wp2_with fail
  rw [Hu24.out]
  clear q20 q21 q22 q23
  clear Hu24
  refine (spread_r Hy.out RD_b0.out RD_b1.out RD_p0.out).mono ?_
  rintro e v25 ⟨Ay, ky, A'y, k'y, rfl, r0, r1, hb⟩
  have RD_y0 := Aside0.mk r0
  have RD_y1 := Aside0.mk r1
  replace BX_a := Aside0.mk (blk_below BX_a.out hb)
  replace BX_b := Aside0.mk (blk_below BX_b.out hb)
  replace BX_p := Aside0.mk (blk_below BX_p.out hb)
  replace BX_x := Aside0.mk (blk_below BX_x.out hb)
  replace RD_a0 := Aside0.mk (RD_a0.out.below hb)
  replace RD_a1 := Aside0.mk (RD_a1.out.below hb)
  replace RD_b0 := Aside0.mk (RD_b0.out.below hb)
  replace RD_b1 := Aside0.mk (RD_b1.out.below hb)
  replace RD_p0 := Aside0.mk (RD_p0.out.below hb)
  replace RD_p1 := Aside0.mk (RD_p1.out.below hb)
  replace RD_x0 := Aside0.mk (RD_x0.out.below hb)
  replace RD_x1 := Aside0.mk (RD_x1.out.below hb)
  replace BW := Aside0.mk (below_then BW.out BW.out.size hb)
  clear hb r0 r1
  have q26 : (v25.alloc (Obj.cells #[.slice Ay S.length ky, .slice A'y dy.length k'y] 24)).cell? ⟨v13.heap.size, 1, none⟩ = some (.slice A'p D.length k'p) := (blk_cell (blk_below BX_p.out (below_fold v25 [Obj.cells #[.slice Ay S.length ky, .slice A'y dy.length k'y] 24])) 1).trans rfl
  have q27 : (v25.alloc (Obj.cells #[.slice Ay S.length ky, .slice A'y dy.length k'y] 24)).cell? ⟨v19.heap.size, 1, none⟩ = some (.slice A'x dx.length k'x) := (blk_cell (blk_below BX_x.out (below_fold v25 [Obj.cells #[.slice Ay S.length ky, .slice A'y dy.length k'y] 24])) 1).trans rfl
  have q28 : (v25.alloc (Obj.cells #[.slice Ay S.length ky, .slice A'y dy.length k'y] 24)).cell? ⟨v25.heap.size, 1, none⟩ = some (.slice A'y dy.length k'y) := (blk_cell (blk_fold v25 [Obj.cells #[.slice Ay S.length ky, .slice A'y dy.length k'y] 24] 0 _ rfl) 1).trans rfl
  obtain ⟨u29, hu29⟩ : ∃ u, (v25.alloc (Obj.cells #[.slice Ay S.length ky, .slice A'y dy.length k'y] 24)) = u := ⟨_, rfl⟩
  have hbu29 : Below v25.heap.size v25 u29 := by rw [← hu29]; exact below_fold v25 [Obj.cells #[.slice Ay S.length ky, .slice A'y dy.length k'y] 24]
  have BX_y : Aside0 (u29.heap[v25.heap.size]? = some (.cells #[.slice Ay S.length ky, .slice A'y dy.length k'y] 24 (0, 0))) := ⟨by rw [← hu29]; exact blk_fold v25 [Obj.cells #[.slice Ay S.length ky, .slice A'y dy.length k'y] 24] 0 _ rfl⟩
  have Hu29 := Aside0.mk hu29
  replace BX_a := Aside0.mk (blk_below BX_a.out hbu29)
  replace BX_b := Aside0.mk (blk_below BX_b.out hbu29)
  replace BX_p := Aside0.mk (blk_below BX_p.out hbu29)
  replace BX_x := Aside0.mk (blk_below BX_x.out hbu29)
  replace RD_a0 := Aside0.mk (RD_a0.out.below hbu29)
  replace RD_a1 := Aside0.mk (RD_a1.out.below hbu29)
  replace RD_b0 := Aside0.mk (RD_b0.out.below hbu29)
  replace RD_b1 := Aside0.mk (RD_b1.out.below hbu29)
  replace RD_p0 := Aside0.mk (RD_p0.out.below hbu29)
  replace RD_p1 := Aside0.mk (RD_p1.out.below hbu29)
  replace RD_x0 := Aside0.mk (RD_x0.out.below hbu29)
  replace RD_x1 := Aside0.mk (RD_x1.out.below hbu29)
  replace RD_y0 := Aside0.mk (RD_y0.out.below hbu29)
  replace RD_y1 := Aside0.mk (RD_y1.out.below hbu29)
  replace BW := Aside0.mk (below_then BW.out BW.out.size hbu29)
  clear hbu29 hu29
  go_wp2_with fail
  rw [Hu29.out]
  clear q26 q27 q28
  clear Hu29
  obtain ⟨ax, rfl, hcx⟩ := Kd.at_int RD_x1.out.c.1 (k : Int) (by omega) (by omega)
  obtain ⟨ay, rfl, hcy⟩ := Kd.at_int RD_y1.out.c.1 (k : Int) (by omega) (by omega)
  simp only [Int.toNat_natCast] at hcx hcy
  obtain ⟨xv, hxe⟩ : ∃ x, rd dx k = x := ⟨_, rfl⟩
  obtain ⟨yv, hye⟩ : ∃ x, rd dy k = x := ⟨_, rfl⟩
  obtain ⟨pv, hpe⟩ : ∃ x, rd D k = x := ⟨_, rfl⟩
  rw [hxe] at hcx HM
  rw [hye] at hcy HM
  rw [hpe] at HM
  have qx : u29.cell? ⟨v19.heap.size, 1, none⟩ = some (.slice (some ax) dx.length k'x) := (blk_cell BX_x.out 1).trans rfl
  have qy : u29.cell? ⟨v25.heap.size, 1, none⟩ = some (.slice (some ay) dy.length k'y) := (blk_cell BX_y.out 1).trans rfl
  have HF : Aside0 (∀ W' : World, Calls Try.prog 21 #[.int .i64 xv, .int .i64 yv] W' fun e w' => e = .returned (.tuple #[.int .i64 pv, .int .i64 0]) ∧ Below W'.heap.size W' w') := ⟨fun W' => by have h := fixMul_any xv yv HM.out.2.1 HM.out.2.2.1 W'; rw [HM.out.1] at h; exact h⟩
  have PE := Aside0.mk hpe
  clear hxe hye hpe
  go_region_held3 (fun w' => w'.cell? ⟨v19.heap.size, 1, none⟩ = some (.slice (some ax) dx.length k'x) ∧ w'.cell? ⟨v25.heap.size, 1, none⟩ = some (.slice (some ay) dy.length k'y) ∧ w'.cell? (ax.add k) = some (.int .i64 xv) ∧ w'.cell? (ay.add k) = some (.int .i64 yv)) (first | (exact ⟨qx, qy, hcx, hcy⟩) | (exact ⟨pw_cell_below (by assumption) (by assumption), pw_cell_below (by assumption) (by assumption), pw_cell_below (by assumption) (by assumption), pw_cell_below (by assumption) (by assumption)⟩))
    (first | ((with_reducible refine (HF.out _).mono ?_); rintro e vm ⟨rfl, hb⟩))
  replace hb := below_undrew hb
  replace BX_a := Aside0.mk (blk_below BX_a.out hb)
  replace BX_b := Aside0.mk (blk_below BX_b.out hb)
  replace BX_p := Aside0.mk (blk_below BX_p.out hb)
  replace BX_x := Aside0.mk (blk_below BX_x.out hb)
  replace BX_y := Aside0.mk (blk_below BX_y.out hb)
  replace RD_a0 := Aside0.mk (RD_a0.out.below hb)
  replace RD_a1 := Aside0.mk (RD_a1.out.below hb)
  replace RD_b0 := Aside0.mk (RD_b0.out.below hb)
  replace RD_b1 := Aside0.mk (RD_b1.out.below hb)
  replace RD_p0 := Aside0.mk (RD_p0.out.below hb)
  replace RD_p1 := Aside0.mk (RD_p1.out.below hb)
  replace RD_x0 := Aside0.mk (RD_x0.out.below hb)
  replace RD_x1 := Aside0.mk (RD_x1.out.below hb)
  replace RD_y0 := Aside0.mk (RD_y0.out.below hb)
  replace RD_y1 := Aside0.mk (RD_y1.out.below hb)
  replace BW := Aside0.mk (below_then BW.out BW.out.size hb)
  clear hb qx qy hcx hcy
  obtain ⟨ap, rfl, hcp⟩ := Kd.at_int RD_p1.out.c.1 (k : Int) (by omega) (by omega)
  simp only [Int.toNat_natCast] at hcp
  rw [PE.out] at hcp
  have q30 : vm.cell? ⟨v13.heap.size, 0, none⟩ = some (.slice Ap S.length kp) := (blk_cell BX_p.out 0).trans rfl
  have q31 : vm.cell? ⟨v13.heap.size, 1, none⟩ = some (.slice (some ap) D.length k'p) := (blk_cell BX_p.out 1).trans rfl
  go_wp2_with fail
  clear q30 q31
  refine (tcheck_r (b := true) HM.out.2.2.2 RD_p0.out).mono ?_
  rintro e v32 ⟨rfl, hb⟩
  replace BX_a := Aside0.mk (blk_below BX_a.out hb)
  replace BX_b := Aside0.mk (blk_below BX_b.out hb)
  replace BX_p := Aside0.mk (blk_below BX_p.out hb)
  replace BX_x := Aside0.mk (blk_below BX_x.out hb)
  replace BX_y := Aside0.mk (blk_below BX_y.out hb)
  replace RD_a0 := Aside0.mk (RD_a0.out.below hb)
  replace RD_a1 := Aside0.mk (RD_a1.out.below hb)
  replace RD_b0 := Aside0.mk (RD_b0.out.below hb)
  replace RD_b1 := Aside0.mk (RD_b1.out.below hb)
  replace RD_p0 := Aside0.mk (RD_p0.out.below hb)
  replace RD_p1 := Aside0.mk (RD_p1.out.below hb)
  replace RD_x0 := Aside0.mk (RD_x0.out.below hb)
  replace RD_x1 := Aside0.mk (RD_x1.out.below hb)
  replace RD_y0 := Aside0.mk (RD_y0.out.below hb)
  replace RD_y1 := Aside0.mk (RD_y1.out.below hb)
  replace BW := Aside0.mk (below_then BW.out BW.out.size hb)
  clear hb
  go_wp2_with fail
  go_ret
  exact ⟨rfl, BW.out⟩
end Go.Proofs.Ytpnigmcpifilmaa.P
