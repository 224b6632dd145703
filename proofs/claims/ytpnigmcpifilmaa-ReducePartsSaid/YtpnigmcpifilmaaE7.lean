/- The walk of ReduceParts. -/
import Derived.Test.YtpnigmcpifilmaaE6
import Derived.Test.YtpnigmcpifilmaaA19
namespace Go.Proofs.Ytpnigmcpifilmaa.P
open Go.RowKit Go.Shelf Go.Proofs.YtpnigmcpifilmaaW.PrintWords Go.Proofs.YtpnigmcpifilmaaW.PrintLast Go.Proofs.YtpnigmcpifilmaaW.PrintMore
set_option linter.unusedVariables false
set_option linter.unusedSimpArgs false
set_option maxHeartbeats 4000000
def sliceR (s d : List Int) (a : Nat) (f t : Int) : TR := ((s.set a (t - f), partD s d a f (t - f)), 0)
theorem slice_o {A0 : Option Addr} {c0 : Nat} {s : List Int} {A1 : Option Addr} {c1 : Nat} {d : List Int} (a : Nat) (f t : Int) {w : World} {S D : List Int} {E : Int} (h : sliceR s d a f t = ((S, D), E)) (r0 : Rd w (.slice A0 s.length c0) s) (r1 : Rd w (.slice A1 d.length c1) d)
    (ht : tOk s d = true) (ha : a < s.length) (h0 : 0 ≤ f) (h1 : f < t) (h2 : t ≤ rd s (a : Nat)) :
    Calls Try.prog 42 #[.agg #[.slice A0 s.length c0, .slice A1 d.length c1], .int .i64 (a : Nat), .int .i64 f, .int .i64 t] w (TOpen w S D E) :=
  (slice_ok a f t r0 r1 ht ha h0 h1 h2).mono fun e w' hh => by
    have h' : TPost w ((S, D), E) e w' := by rw [← h]; exact hh
    exact h'.openN.topen
theorem slice_n {A0 : Option Addr} {c0 : Nat} {s : List Int} {A1 : Option Addr} {c1 : Nat} {d : List Int} (a : Nat) (f t : Int) {w : World} {S D : List Int} {E : Int} (h : sliceR s d a f t = ((S, D), E)) (r0 : Rd w (.slice A0 s.length c0) s) (r1 : Rd w (.slice A1 d.length c1) d)
    (ht : tOk s d = true) (ha : a < s.length) (h0 : 0 ≤ f) (h1 : f < t) (h2 : t ≤ rd s (a : Nat)) :
    Calls Try.prog 42 #[.agg #[.slice A0 s.length c0, .slice A1 d.length c1], .int .i64 (a : Nat), .int .i64 f, .int .i64 t] w (TOpenN w S D E) :=
  (slice_ok a f t r0 r1 ht ha h0 h1 h2).mono fun e w' hh => by
    have h' : TPost w ((S, D), E) e w' := by rw [← h]; exact hh
    exact h'.openN
set_option maxRecDepth 100000 in
theorem parts_bad1 (A0 : Option Addr) (c0 : Nat) (a1 : List Int) (A1 : Option Addr) (c1 : Nat) (a2 : List Int) (ax : Int) (at_ : Int) (w : World)
    (r0 : Rd w (.slice A0 a1.length c0) a1) (r1 : Rd w (.slice A1 a2.length c1) a2) (i1 : allI a2) (g : fewB a1 a2 = false) :
    Calls Try.prog 13 #[.agg #[.slice A0 a1.length c0, .slice A1 a2.length c1], .int .i64 ax, .int .u8 at_] w fun e w' => e = .returned (.bool true) ∧ Below w.heap.size w w' := by
  have G1 := Aside0.mk g
  clear g 
  have RD_a0 := Aside0.mk r0
  have RD_a1 := Aside0.mk r1
  have I1 := Aside0.mk i1
  clear r0 r1 i1
  have BW : Aside0 (Below w.heap.size w w) := ⟨Below.refl _ _⟩
  go_enter Try.func13, Try.ntmps13
  obtain ⟨u1, hu1⟩ : ∃ u, (w.alloc (Obj.cells #[.slice A0 a1.length c0, .slice A1 a2.length c1] 24)) = u := ⟨_, rfl⟩
  have hbu1 : Below w.heap.size w u1 := by rw [← hu1]; exact below_fold w [Obj.cells #[.slice A0 a1.length c0, .slice A1 a2.length c1] 24]
  have BX_a : Aside0 (u1.heap[w.heap.size]? = some (.cells #[.slice A0 a1.length c0, .slice A1 a2.length c1] 24 (0, 0))) := ⟨by rw [← hu1]; exact blk_fold w [Obj.cells #[.slice A0 a1.length c0, .slice A1 a2.length c1] 24] 0 _ rfl⟩
  have Hu1 := Aside0.mk hu1
  replace RD_a0 := Aside0.mk (RD_a0.out.below hbu1)
  replace RD_a1 := Aside0.mk (RD_a1.out.below hbu1)
  replace BW := Aside0.mk (below_then BW.out BW.out.size hbu1)
  clear hbu1 hu1
  go_wp2_with fail
  rw [Hu1.out]
  clear Hu1
  refine (awake06 _).mono ?_
  rintro e v2 ⟨rfl, hb⟩
  replace BX_a := Aside0.mk (blk_below BX_a.out hb)
  replace RD_a0 := Aside0.mk (RD_a0.out.below hb)
  replace RD_a1 := Aside0.mk (RD_a1.out.below hb)
  replace BW := Aside0.mk (below_then BW.out BW.out.size hb)
  clear hb
  have q3 : v2.cell? ⟨w.heap.size, 0, none⟩ = some (.slice A0 a1.length c0) := (blk_cell BX_a.out 0).trans rfl
  have q4 : v2.cell? ⟨w.heap.size, 1, none⟩ = some (.slice A1 a2.length c1) := (blk_cell BX_a.out 1).trans rfl
  go_wp2_with fail
  clear q3 q4
  refine (few_r (b := false) (s := a1) (d := a2) G1.out).mono ?_
  rintro e v5 ⟨rfl, hb⟩
  replace BX_a := Aside0.mk (blk_below BX_a.out hb)
  replace RD_a0 := Aside0.mk (RD_a0.out.below hb)
  replace RD_a1 := Aside0.mk (RD_a1.out.below hb)
  replace BW := Aside0.mk (below_then BW.out BW.out.size hb)
  clear hb
  go_wp2_with fail
  go_ret
  exact ⟨rfl, BW.out⟩
set_option maxRecDepth 100000 in
theorem parts_bad2 (A0 : Option Addr) (c0 : Nat) (a1 : List Int) (A1 : Option Addr) (c1 : Nat) (a2 : List Int) (ax : Int) (at_ : Int) (w : World)
    (r0 : Rd w (.slice A0 a1.length c0) a1) (r1 : Rd w (.slice A1 a2.length c1) a2) (i1 : allI a2) (g1 : fewB a1 a2 = true) (g : tOk a1 a2 = false) :
    Calls Try.prog 13 #[.agg #[.slice A0 a1.length c0, .slice A1 a2.length c1], .int .i64 ax, .int .u8 at_] w fun e w' => e = .returned (.bool true) ∧ Below w.heap.size w w' := by
  have G1 := Aside0.mk g1
  have G2 := Aside0.mk g
  clear g g1
  have RD_a0 := Aside0.mk r0
  have RD_a1 := Aside0.mk r1
  have I1 := Aside0.mk i1
  clear r0 r1 i1
  have BW : Aside0 (Below w.heap.size w w) := ⟨Below.refl _ _⟩
  go_enter Try.func13, Try.ntmps13
  obtain ⟨u1, hu1⟩ : ∃ u, (w.alloc (Obj.cells #[.slice A0 a1.length c0, .slice A1 a2.length c1] 24)) = u := ⟨_, rfl⟩
  have hbu1 : Below w.heap.size w u1 := by rw [← hu1]; exact below_fold w [Obj.cells #[.slice A0 a1.length c0, .slice A1 a2.length c1] 24]
  have BX_a : Aside0 (u1.heap[w.heap.size]? = some (.cells #[.slice A0 a1.length c0, .slice A1 a2.length c1] 24 (0, 0))) := ⟨by rw [← hu1]; exact blk_fold w [Obj.cells #[.slice A0 a1.length c0, .slice A1 a2.length c1] 24] 0 _ rfl⟩
  have Hu1 := Aside0.mk hu1
  replace RD_a0 := Aside0.mk (RD_a0.out.below hbu1)
  replace RD_a1 := Aside0.mk (RD_a1.out.below hbu1)
  replace BW := Aside0.mk (below_then BW.out BW.out.size hbu1)
  clear hbu1 hu1
  go_wp2_with fail
  rw [Hu1.out]
  clear Hu1
  refine (awake06 _).mono ?_
  rintro e v2 ⟨rfl, hb⟩
  replace BX_a := Aside0.mk (blk_below BX_a.out hb)
  replace RD_a0 := Aside0.mk (RD_a0.out.below hb)
  replace RD_a1 := Aside0.mk (RD_a1.out.below hb)
  replace BW := Aside0.mk (below_then BW.out BW.out.size hb)
  clear hb
  have q3 : v2.cell? ⟨w.heap.size, 0, none⟩ = some (.slice A0 a1.length c0) := (blk_cell BX_a.out 0).trans rfl
  have q4 : v2.cell? ⟨w.heap.size, 1, none⟩ = some (.slice A1 a2.length c1) := (blk_cell BX_a.out 1).trans rfl
  go_wp2_with fail
  clear q3 q4
  refine (few_r (b := true) (s := a1) (d := a2) G1.out).mono ?_
  rintro e v5 ⟨rfl, hb⟩
  replace BX_a := Aside0.mk (blk_below BX_a.out hb)
  replace RD_a0 := Aside0.mk (RD_a0.out.below hb)
  replace RD_a1 := Aside0.mk (RD_a1.out.below hb)
  replace BW := Aside0.mk (below_then BW.out BW.out.size hb)
  clear hb
  have q6 : v5.cell? ⟨w.heap.size, 0, none⟩ = some (.slice A0 a1.length c0) := (blk_cell BX_a.out 0).trans rfl
  have q7 : v5.cell? ⟨w.heap.size, 1, none⟩ = some (.slice A1 a2.length c1) := (blk_cell BX_a.out 1).trans rfl
  go_wp2_with fail
  clear q6 q7
  refine (tcheck_r (b := false) G2.out RD_a0.out).mono ?_
  rintro e v8 ⟨rfl, hb⟩
  replace BX_a := Aside0.mk (blk_below BX_a.out hb)
  replace RD_a0 := Aside0.mk (RD_a0.out.below hb)
  replace RD_a1 := Aside0.mk (RD_a1.out.below hb)
  replace BW := Aside0.mk (below_then BW.out BW.out.size hb)
  clear hb
  go_wp2_with fail
  go_ret
  exact ⟨rfl, BW.out⟩
set_option maxRecDepth 100000 in
theorem parts_bad3 (A0 : Option Addr) (c0 : Nat) (a1 : List Int) (A1 : Option Addr) (c1 : Nat) (a2 : List Int) (ax : Int) (at_ : Int) (w : World)
    (r0 : Rd w (.slice A0 a1.length c0) a1) (r1 : Rd w (.slice A1 a2.length c1) a2) (i1 : allI a2) (g1 : fewB a1 a2 = true) (g2 : tOk a1 a2 = true) (g : ax < 0) :
    Calls Try.prog 13 #[.agg #[.slice A0 a1.length c0, .slice A1 a2.length c1], .int .i64 ax, .int .u8 at_] w fun e w' => e = .returned (.bool true) ∧ Below w.heap.size w w' := by
  have G1 := Aside0.mk g1
  have G2 := Aside0.mk g2
  have n1 : decide (ax < 0) = true := by simpa using g
  clear g g1 g2
  have RD_a0 := Aside0.mk r0
  have RD_a1 := Aside0.mk r1
  have I1 := Aside0.mk i1
  clear r0 r1 i1
  have BW : Aside0 (Below w.heap.size w w) := ⟨Below.refl _ _⟩
  go_enter Try.func13, Try.ntmps13
  obtain ⟨u1, hu1⟩ : ∃ u, (w.alloc (Obj.cells #[.slice A0 a1.length c0, .slice A1 a2.length c1] 24)) = u := ⟨_, rfl⟩
  have hbu1 : Below w.heap.size w u1 := by rw [← hu1]; exact below_fold w [Obj.cells #[.slice A0 a1.length c0, .slice A1 a2.length c1] 24]
  have BX_a : Aside0 (u1.heap[w.heap.size]? = some (.cells #[.slice A0 a1.length c0, .slice A1 a2.length c1] 24 (0, 0))) := ⟨by rw [← hu1]; exact blk_fold w [Obj.cells #[.slice A0 a1.length c0, .slice A1 a2.length c1] 24] 0 _ rfl⟩
  have Hu1 := Aside0.mk hu1
  replace RD_a0 := Aside0.mk (RD_a0.out.below hbu1)
  replace RD_a1 := Aside0.mk (RD_a1.out.below hbu1)
  replace BW := Aside0.mk (below_then BW.out BW.out.size hbu1)
  clear hbu1 hu1
  go_wp2_with fail
  rw [Hu1.out]
  clear Hu1
  refine (awake06 _).mono ?_
  rintro e v2 ⟨rfl, hb⟩
  replace BX_a := Aside0.mk (blk_below BX_a.out hb)
  replace RD_a0 := Aside0.mk (RD_a0.out.below hb)
  replace RD_a1 := Aside0.mk (RD_a1.out.below hb)
  replace BW := Aside0.mk (below_then BW.out BW.out.size hb)
  clear hb
  have q3 : v2.cell? ⟨w.heap.size, 0, none⟩ = some (.slice A0 a1.length c0) := (blk_cell BX_a.out 0).trans rfl
  have q4 : v2.cell? ⟨w.heap.size, 1, none⟩ = some (.slice A1 a2.length c1) := (blk_cell BX_a.out 1).trans rfl
  go_wp2_with fail
  clear q3 q4
  refine (few_r (b := true) (s := a1) (d := a2) G1.out).mono ?_
  rintro e v5 ⟨rfl, hb⟩
  replace BX_a := Aside0.mk (blk_below BX_a.out hb)
  replace RD_a0 := Aside0.mk (RD_a0.out.below hb)
  replace RD_a1 := Aside0.mk (RD_a1.out.below hb)
  replace BW := Aside0.mk (below_then BW.out BW.out.size hb)
  clear hb
  have q6 : v5.cell? ⟨w.heap.size, 0, none⟩ = some (.slice A0 a1.length c0) := (blk_cell BX_a.out 0).trans rfl
  have q7 : v5.cell? ⟨w.heap.size, 1, none⟩ = some (.slice A1 a2.length c1) := (blk_cell BX_a.out 1).trans rfl
  go_wp2_with fail
  clear q6 q7
  refine (tcheck_r (b := true) G2.out RD_a0.out).mono ?_
  rintro e v8 ⟨rfl, hb⟩
  replace BX_a := Aside0.mk (blk_below BX_a.out hb)
  replace RD_a0 := Aside0.mk (RD_a0.out.below hb)
  replace RD_a1 := Aside0.mk (RD_a1.out.below hb)
  replace BW := Aside0.mk (below_then BW.out BW.out.size hb)
  clear hb
  have q9 : v8.cell? ⟨w.heap.size, 0, none⟩ = some (.slice A0 a1.length c0) := (blk_cell BX_a.out 0).trans rfl
  go_wp2_with fail
  clear q9
  go_ret
  exact ⟨rfl, BW.out⟩
set_option maxRecDepth 100000 in
theorem parts_bad4 (A0 : Option Addr) (c0 : Nat) (a1 : List Int) (A1 : Option Addr) (c1 : Nat) (a2 : List Int) (ax : Int) (at_ : Int) (w : World)
    (r0 : Rd w (.slice A0 a1.length c0) a1) (r1 : Rd w (.slice A1 a2.length c1) a2) (i1 : allI a2) (g1 : fewB a1 a2 = true) (g2 : tOk a1 a2 = true) (g : 0 ≤ ax) (g' : (a1.length : Int) ≤ ax) :
    Calls Try.prog 13 #[.agg #[.slice A0 a1.length c0, .slice A1 a2.length c1], .int .i64 ax, .int .u8 at_] w fun e w' => e = .returned (.bool true) ∧ Below w.heap.size w w' := by
  have G1 := Aside0.mk g1
  have G2 := Aside0.mk g2
  have n1 : decide (ax < 0) = false := by simpa using g
  have n2 : decide ((a1.length : Int) ≤ ax) = true := by simpa using g'
  clear g g' g1 g2
  have RD_a0 := Aside0.mk r0
  have RD_a1 := Aside0.mk r1
  have I1 := Aside0.mk i1
  clear r0 r1 i1
  have BW : Aside0 (Below w.heap.size w w) := ⟨Below.refl _ _⟩
  go_enter Try.func13, Try.ntmps13
  obtain ⟨u1, hu1⟩ : ∃ u, (w.alloc (Obj.cells #[.slice A0 a1.length c0, .slice A1 a2.length c1] 24)) = u := ⟨_, rfl⟩
  have hbu1 : Below w.heap.size w u1 := by rw [← hu1]; exact below_fold w [Obj.cells #[.slice A0 a1.length c0, .slice A1 a2.length c1] 24]
  have BX_a : Aside0 (u1.heap[w.heap.size]? = some (.cells #[.slice A0 a1.length c0, .slice A1 a2.length c1] 24 (0, 0))) := ⟨by rw [← hu1]; exact blk_fold w [Obj.cells #[.slice A0 a1.length c0, .slice A1 a2.length c1] 24] 0 _ rfl⟩
  have Hu1 := Aside0.mk hu1
  replace RD_a0 := Aside0.mk (RD_a0.out.below hbu1)
  replace RD_a1 := Aside0.mk (RD_a1.out.below hbu1)
  replace BW := Aside0.mk (below_then BW.out BW.out.size hbu1)
  clear hbu1 hu1
  go_wp2_with fail
  rw [Hu1.out]
  clear Hu1
  refine (awake06 _).mono ?_
  rintro e v2 ⟨rfl, hb⟩
  replace BX_a := Aside0.mk (blk_below BX_a.out hb)
  replace RD_a0 := Aside0.mk (RD_a0.out.below hb)
  replace RD_a1 := Aside0.mk (RD_a1.out.below hb)
  replace BW := Aside0.mk (below_then BW.out BW.out.size hb)
  clear hb
  have q3 : v2.cell? ⟨w.heap.size, 0, none⟩ = some (.slice A0 a1.length c0) := (blk_cell BX_a.out 0).trans rfl
  have q4 : v2.cell? ⟨w.heap.size, 1, none⟩ = some (.slice A1 a2.length c1) := (blk_cell BX_a.out 1).trans rfl
  go_wp2_with fail
  clear q3 q4
  refine (few_r (b := true) (s := a1) (d := a2) G1.out).mono ?_
  rintro e v5 ⟨rfl, hb⟩
  replace BX_a := Aside0.mk (blk_below BX_a.out hb)
  replace RD_a0 := Aside0.mk (RD_a0.out.below hb)
  replace RD_a1 := Aside0.mk (RD_a1.out.below hb)
  replace BW := Aside0.mk (below_then BW.out BW.out.size hb)
  clear hb
  have q6 : v5.cell? ⟨w.heap.size, 0, none⟩ = some (.slice A0 a1.length c0) := (blk_cell BX_a.out 0).trans rfl
  have q7 : v5.cell? ⟨w.heap.size, 1, none⟩ = some (.slice A1 a2.length c1) := (blk_cell BX_a.out 1).trans rfl
  go_wp2_with fail
  clear q6 q7
  refine (tcheck_r (b := true) G2.out RD_a0.out).mono ?_
  rintro e v8 ⟨rfl, hb⟩
  replace BX_a := Aside0.mk (blk_below BX_a.out hb)
  replace RD_a0 := Aside0.mk (RD_a0.out.below hb)
  replace RD_a1 := Aside0.mk (RD_a1.out.below hb)
  replace BW := Aside0.mk (below_then BW.out BW.out.size hb)
  clear hb
  have q9 : v8.cell? ⟨w.heap.size, 0, none⟩ = some (.slice A0 a1.length c0) := (blk_cell BX_a.out 0).trans rfl
  go_wp2_with fail
  clear q9
  go_ret
  exact ⟨rfl, BW.out⟩
set_option maxRecDepth 100000 in
theorem parts_bad5 (A0 : Option Addr) (c0 : Nat) (a1 : List Int) (A1 : Option Addr) (c1 : Nat) (a2 : List Int) (a : Nat) (at_ : Int) (w : World)
    (r0 : Rd w (.slice A0 a1.length c0) a1) (r1 : Rd w (.slice A1 a2.length c1) a2) (i1 : allI a2) (g1 : fewB a1 a2 = true) (g2 : tOk a1 a2 = true) (g : a < a1.length) (g' : rd a1 (a : Nat) < 2) :
    Calls Try.prog 13 #[.agg #[.slice A0 a1.length c0, .slice A1 a2.length c1], .int .i64 (a : Nat), .int .u8 at_] w fun e w' => e = .returned (.bool true) ∧ Below w.heap.size w w' := by
  have G1 := Aside0.mk g1
  have G2 := Aside0.mk g2
  have l3 := (shapeOk_bd ((tOk_iff _ _).1 g2).1).1
  have n1 : decide ((a : Int) < 0) = false := by simp
  have n2 : decide ((a1.length : Int) ≤ (a : Int)) = false := by simp; omega
  have n2' : decide (a1.length ≤ a) = false := by simp; omega
  have n3 : decide (rd a1 (a : Nat) < 2) = true := by simpa using g'
  obtain ⟨y, hy⟩ : ∃ y, rd a1 (a : Nat) = y := ⟨_, rfl⟩
  rw [hy] at n3
  have HY := Aside0.mk hy
  clear g' hy g1 g2
  have RD_a0 := Aside0.mk r0
  have RD_a1 := Aside0.mk r1
  have I1 := Aside0.mk i1
  clear r0 r1 i1
  have BW : Aside0 (Below w.heap.size w w) := ⟨Below.refl _ _⟩
  go_enter Try.func13, Try.ntmps13
  obtain ⟨u1, hu1⟩ : ∃ u, (w.alloc (Obj.cells #[.slice A0 a1.length c0, .slice A1 a2.length c1] 24)) = u := ⟨_, rfl⟩
  have hbu1 : Below w.heap.size w u1 := by rw [← hu1]; exact below_fold w [Obj.cells #[.slice A0 a1.length c0, .slice A1 a2.length c1] 24]
  have BX_a : Aside0 (u1.heap[w.heap.size]? = some (.cells #[.slice A0 a1.length c0, .slice A1 a2.length c1] 24 (0, 0))) := ⟨by rw [← hu1]; exact blk_fold w [Obj.cells #[.slice A0 a1.length c0, .slice A1 a2.length c1] 24] 0 _ rfl⟩
  have Hu1 := Aside0.mk hu1
  replace RD_a0 := Aside0.mk (RD_a0.out.below hbu1)
  replace RD_a1 := Aside0.mk (RD_a1.out.below hbu1)
  replace BW := Aside0.mk (below_then BW.out BW.out.size hbu1)
  clear hbu1 hu1
  go_wp2_with fail
  rw [Hu1.out]
  clear Hu1
  refine (awake06 _).mono ?_
  rintro e v2 ⟨rfl, hb⟩
  replace BX_a := Aside0.mk (blk_below BX_a.out hb)
  replace RD_a0 := Aside0.mk (RD_a0.out.below hb)
  replace RD_a1 := Aside0.mk (RD_a1.out.below hb)
  replace BW := Aside0.mk (below_then BW.out BW.out.size hb)
  clear hb
  have q3 : v2.cell? ⟨w.heap.size, 0, none⟩ = some (.slice A0 a1.length c0) := (blk_cell BX_a.out 0).trans rfl
  have q4 : v2.cell? ⟨w.heap.size, 1, none⟩ = some (.slice A1 a2.length c1) := (blk_cell BX_a.out 1).trans rfl
  go_wp2_with fail
  clear q3 q4
  refine (few_r (b := true) (s := a1) (d := a2) G1.out).mono ?_
  rintro e v5 ⟨rfl, hb⟩
  replace BX_a := Aside0.mk (blk_below BX_a.out hb)
  replace RD_a0 := Aside0.mk (RD_a0.out.below hb)
  replace RD_a1 := Aside0.mk (RD_a1.out.below hb)
  replace BW := Aside0.mk (below_then BW.out BW.out.size hb)
  clear hb
  have q6 : v5.cell? ⟨w.heap.size, 0, none⟩ = some (.slice A0 a1.length c0) := (blk_cell BX_a.out 0).trans rfl
  have q7 : v5.cell? ⟨w.heap.size, 1, none⟩ = some (.slice A1 a2.length c1) := (blk_cell BX_a.out 1).trans rfl
  go_wp2_with fail
  clear q6 q7
  refine (tcheck_r (b := true) G2.out RD_a0.out).mono ?_
  rintro e v8 ⟨rfl, hb⟩
  replace BX_a := Aside0.mk (blk_below BX_a.out hb)
  replace RD_a0 := Aside0.mk (RD_a0.out.below hb)
  replace RD_a1 := Aside0.mk (RD_a1.out.below hb)
  replace BW := Aside0.mk (below_then BW.out BW.out.size hb)
  clear hb
  obtain ⟨ad, rfl, hx0⟩ := Kd.at_int RD_a0.out.c.1 (a : Int) (by omega) (by omega)
  simp only [Int.toNat_natCast] at hx0
  rw [HY.out] at hx0
  clear l3
  have q9 : v8.cell? ⟨w.heap.size, 0, none⟩ = some (.slice (some ad) a1.length c0) := (blk_cell BX_a.out 0).trans rfl
  go_wp2_with fail
  clear q9
  go_ret
  exact ⟨rfl, BW.out⟩
set_option maxRecDepth 100000 in
theorem parts_good (A0 : Option Addr) (c0 : Nat) (a1 : List Int) (A1 : Option Addr) (c1 : Nat) (a2 : List Int) (a : Nat) (at_ : Int) (w : World)
    (r0 : Rd w (.slice A0 a1.length c0) a1) (r1 : Rd w (.slice A1 a2.length c1) a2) (i1 : allI a2) (g1 : fewB a1 a2 = true) (g2 : tOk a1 a2 = true) (ga : a < a1.length) (y k : Int) (gy : rd a1 (a : Nat) = y) (gy2 : 2 ≤ y) (t0 : 0 ≤ at_) (t1 : at_ < 256) (gk : 1 + at_ % (y - 1) = k)
    (sa da : List Int) (ea : Int) (ha : sliceR a1 a2 a 0 k = ((sa, da), ea)) (sb db : List Int) (eb : Int) (hb : sliceR a1 a2 a k y = ((sb, db), eb)) (sx dx : List Int) (ex : Int) (hx : sumR sa da (a : Nat) = ((sx, dx), ex)) (sy dy : List Int) (ey : Int) (hy : sumR sb db (a : Nat) = ((sy, dy), ey)) (ss ds : List Int) (es : Int) (hs : sumR a1 a2 (a : Nat) = ((ss, ds), es)) (sz dz : List Int) (ez : Int) (hz : elemTwo 10 sx dx sy dy = ((sz, dz), ez)) (sp dp : List Int) (ep : Int) (hp : maxR sa da (a : Nat) = ((sp, dp), ep)) (sq dq : List Int) (eq : Int) (hq : maxR sb db (a : Nat) = ((sq, dq), eq)) (sw dw : List Int) (ew : Int) (hw : maxR a1 a2 (a : Nat) = ((sw, dw), ew))
    (ia : allI da) (ib : allI db) (ix : allI dx) (iy : allI dy) (l64 : a2.length ≤ 64) (lw : dw.length ≤ 64)
    (hg : (∀ k : Nat, k < a2.length → -1099511627776 ≤ rd a2 k ∧ rd a2 k ≤ 1099511627776) → (ea = 0 ∧ eb = 0 ∧ ex = 0 ∧ ey = 0 ∧ es = 0 ∧ ez = 0 ∧ ep = 0 ∧ eq = 0 ∧ ew = 0) ∧ dp.length = dw.length ∧ dq.length = dw.length ∧ (∀ c : Nat, c < dw.length → rd dw c = max (rd dp c) (rd dq c)) ∧ sameB ss ds sz dz = true) :
    Calls Try.prog 13 #[.agg #[.slice A0 a1.length c0, .slice A1 a2.length c1], .int .i64 (a : Nat), .int .u8 at_] w fun e w' => e = .returned (.bool true) ∧ Below w.heap.size w w' := by
  have G1 := Aside0.mk g1
  have G2 := Aside0.mk g2
  have Ha := Aside0.mk ha
  have Hb := Aside0.mk hb
  have Hx := Aside0.mk hx
  have Hy := Aside0.mk hy
  have Hs := Aside0.mk hs
  have Hz := Aside0.mk hz
  have Hp := Aside0.mk hp
  have Hq := Aside0.mk hq
  have Hw := Aside0.mk hw
  have IA := Aside0.mk ia
  have IB := Aside0.mk ib
  have IX := Aside0.mk ix
  have IY := Aside0.mk iy
  have HG := Aside0.mk hg
  have L64 := Aside0.mk l64
  have LW := Aside0.mk lw
  have l3 := (shapeOk_bd ((tOk_iff _ _).1 g2).1).1
  have y16 := (side_bd ((tOk_iff _ _).1 g2).1 ga).2
  rw [gy] at y16
  have GY := Aside0.mk gy
  have GA := Aside0.mk (And.intro ga l3)
  have kb : 1 ≤ k ∧ k < y := by have q1 := Int.emod_nonneg at_ (show y - 1 ≠ 0 by omega); have q2 := Int.emod_lt_of_pos at_ (show 0 < y - 1 by omega); omega
  have KB := Aside0.mk kb
  have n1 : decide ((a : Int) < 0) = false := by simp
  have n2 : decide ((a1.length : Int) ≤ (a : Int)) = false := by simp; omega
  have n2' : decide (a1.length ≤ a) = false := by simp; omega
  have n3 : decide (y < 2) = false := by simp; omega
  have m1 : IntKind.i64.wrap at_ = at_ := wrap_in _ ⟨by omega, by omega⟩
  have m2 : IntKind.i64.wrap (y - 1) = y - 1 := wrap_in _ ⟨by omega, by omega⟩
  have m3 : ¬ (y - 1 = 0) := by omega
  have m3' : ((y - 1) == 0) = false := by simpa using m3
  have m4 : at_.tmod (y - 1) = k - 1 := by rw [Int.tmod_eq_emod_of_nonneg t0]; omega
  have m5 : IntKind.i64.wrap (k - 1) = k - 1 := wrap_in _ ⟨by omega, by omega⟩
  have m6 : IntKind.i64.wrap (1 + (k - 1)) = k := by rw [wrap_in _ ⟨by omega, by omega⟩]; omega
  have MM := Aside0.mk (And.intro m1 (And.intro m2 (And.intro m3 (And.intro m3' (And.intro m4 (And.intro m5 m6))))))
  clear g1 g2 gy gy2 ia ib ix iy hg l64 lw ga kb y16 l3 m1 m2 m3 m3' m4 m5 m6 gk t0 t1 ha hb hx hy hs hz hp hq hw
  have RD_a0 := Aside0.mk r0
  have RD_a1 := Aside0.mk r1
  have I1 := Aside0.mk i1
  clear r0 r1 i1
  have BW : Aside0 (Below w.heap.size w w) := ⟨Below.refl _ _⟩
  go_enter Try.func13, Try.ntmps13
  obtain ⟨u1, hu1⟩ : ∃ u, (w.alloc (Obj.cells #[.slice A0 a1.length c0, .slice A1 a2.length c1] 24)) = u := ⟨_, rfl⟩
  have hbu1 : Below w.heap.size w u1 := by rw [← hu1]; exact below_fold w [Obj.cells #[.slice A0 a1.length c0, .slice A1 a2.length c1] 24]
  have BX_a : Aside0 (u1.heap[w.heap.size]? = some (.cells #[.slice A0 a1.length c0, .slice A1 a2.length c1] 24 (0, 0))) := ⟨by rw [← hu1]; exact blk_fold w [Obj.cells #[.slice A0 a1.length c0, .slice A1 a2.length c1] 24] 0 _ rfl⟩
  have Hu1 := Aside0.mk hu1
  replace RD_a0 := Aside0.mk (RD_a0.out.below hbu1)
  replace RD_a1 := Aside0.mk (RD_a1.out.below hbu1)
  replace BW := Aside0.mk (below_then BW.out BW.out.size hbu1)
  clear hbu1 hu1
  go_wp2_with fail
  rw [Hu1.out]
  clear Hu1
  refine (awake06 _).mono ?_
  rintro e v2 ⟨rfl, hb⟩
  replace BX_a := Aside0.mk (blk_below BX_a.out hb)
  replace RD_a0 := Aside0.mk (RD_a0.out.below hb)
  replace RD_a1 := Aside0.mk (RD_a1.out.below hb)
  replace BW := Aside0.mk (below_then BW.out BW.out.size hb)
  clear hb
  have q3 : v2.cell? ⟨w.heap.size, 0, none⟩ = some (.slice A0 a1.length c0) := (blk_cell BX_a.out 0).trans rfl
  have q4 : v2.cell? ⟨w.heap.size, 1, none⟩ = some (.slice A1 a2.length c1) := (blk_cell BX_a.out 1).trans rfl
  go_wp2_with fail
  clear q3 q4
  refine (few_r (b := true) (s := a1) (d := a2) G1.out).mono ?_
  rintro e v5 ⟨rfl, hb⟩
  replace BX_a := Aside0.mk (blk_below BX_a.out hb)
  replace RD_a0 := Aside0.mk (RD_a0.out.below hb)
  replace RD_a1 := Aside0.mk (RD_a1.out.below hb)
  replace BW := Aside0.mk (below_then BW.out BW.out.size hb)
  clear hb
  have q6 : v5.cell? ⟨w.heap.size, 0, none⟩ = some (.slice A0 a1.length c0) := (blk_cell BX_a.out 0).trans rfl
  have q7 : v5.cell? ⟨w.heap.size, 1, none⟩ = some (.slice A1 a2.length c1) := (blk_cell BX_a.out 1).trans rfl
  go_wp2_with fail
  clear q6 q7
  refine (tcheck_r (b := true) G2.out RD_a0.out).mono ?_
  rintro e v8 ⟨rfl, hb⟩
  replace BX_a := Aside0.mk (blk_below BX_a.out hb)
  replace RD_a0 := Aside0.mk (RD_a0.out.below hb)
  replace RD_a1 := Aside0.mk (RD_a1.out.below hb)
  replace BW := Aside0.mk (below_then BW.out BW.out.size hb)
  clear hb
  obtain ⟨ad, rfl, hx0⟩ := Kd.at_int RD_a0.out.c.1 (a : Int) (by omega) (by have := GA.out; omega)
  simp only [Int.toNat_natCast] at hx0
  rw [GY.out] at hx0
  have ga := GA.out.1
  have q9 : v8.cell? ⟨w.heap.size, 0, none⟩ = some (.slice (some ad) a1.length c0) := (blk_cell BX_a.out 0).trans rfl
  go_wp2_with fail
  clear q9
  clear hx0 n1 n2 n2' n3 ga
  go_loopg [8] (a2.length) (fun g i wr => ∃ k : Nat, i = .int .i64 k ∧ Aside0 (Below v8.heap.size v8 wr) ∧ Aside0 (k ≤ a2.length ∧ g = a2.length - k ∧ ∀ j : Nat, j < k → -1099511627776 ≤ rd a2 j ∧ rd a2 j ≤ 1099511627776))
  case atStart => exact ⟨0, rfl, ⟨Below.refl _ _⟩, ⟨by omega, by omega, fun j hj => by omega⟩⟩
  case round =>
    obtain ⟨j, rfl, hbx, HA⟩ := hrel
    obtain ⟨hk, hg, hall⟩ := HA.out
    obtain ⟨v99, rfl⟩ : ∃ v99, v99 = wr := ⟨_, rfl⟩
    have hb := hbx.out
    replace BX_a := Aside0.mk (blk_below BX_a.out hb)
    replace RD_a0 := Aside0.mk (RD_a0.out.below hb)
    replace RD_a1 := Aside0.mk (RD_a1.out.below hb)
    replace BW := Aside0.mk (below_then BW.out BW.out.size hb)
    clear hb HA
    have l64 := L64.out
    have HALL := Aside0.mk hall
    clear hall
    by_cases hlt : j < a2.length
    case pos =>
      have cc1 : decide ((j : Int) < (a2.length : Int)) = true := by simpa using hlt
      have cc2 : decide (j < a2.length) = true := by simpa using hlt
      obtain ⟨aa, rfl, hcy⟩ := Kd.at_int RD_a1.out.c.1 (j : Int) (by omega) (by omega)
      simp only [Int.toNat_natCast] at hcy
      obtain ⟨z, hye⟩ : ∃ x, rd a2 j = x := ⟨_, rfl⟩
      rw [hye] at hcy
      have qq_a1 : v99.cell? ⟨w.heap.size, 1, none⟩ = some (.slice (some aa) a2.length c1) := (blk_cell BX_a.out 1).trans rfl
      have hwi : IntKind.i64.wrap ((j : Int) + 1) = ((j + 1 : Nat) : Int) := by rw [wrap_in _ ⟨by omega, by omega⟩]; omega
      have G := Aside0.mk (And.intro hg hlt)
      have HY := Aside0.mk hye
      clear hye hk hg l64
      by_cases d1 : z < -1099511627776
      case pos =>
        have e1 : decide (z < -1099511627776) = true := by simpa using d1
        clear d1
        go_wp2_with fail
        go_ret
        exact ⟨rfl, BW.out⟩
      case neg =>
        have e1 : decide (z < -1099511627776) = false := by simpa using d1
        by_cases d2 : 1099511627776 < z
        case pos =>
          have e2 : decide (1099511627776 < z) = true := by simpa using d2
          clear d1 d2
          go_wp2_with fail
          go_ret
          exact ⟨rfl, BW.out⟩
        case neg =>
          have e2 : decide (1099511627776 < z) = false := by simpa using d2
          have HA2 : Aside0 (∀ i : Nat, i < j + 1 → -1099511627776 ≤ rd a2 i ∧ rd a2 i ≤ 1099511627776) := ⟨fun i hj => by
            by_cases e : i = j
            · subst e; rw [HY.out]; omega
            · exact HALL.out i (by omega)⟩
          clear d1 d2
          go_wp2_with fail
          go_roundg (a2.length - (j + 1))
          case measure => have := G.out; omega
          case rel => exact ⟨j + 1, by first | rfl | simp, hbx, ⟨by have := G.out; omega, rfl, HA2.out⟩⟩
    case neg =>
      have cc1 : decide ((j : Int) < (a2.length : Int)) = false := by simpa using hlt
      have cc2 : decide (j < a2.length) = false := by simpa using hlt
      obtain ⟨⟨x1, x2, x3, x4, x5, x6, x7, x8, x9⟩, hl1, hl2, hmx, hs1⟩ := HG.out (fun i hj => HALL.out i (by omega))
      have z1 : (ea == 0) = true := by simpa using x1
      have z2 : (eb == 0) = true := by simpa using x2
      have z3 : (ex == 0) = true := by simpa using x3
      have z4 : (ey == 0) = true := by simpa using x4
      have z5 : (es == 0) = true := by simpa using x5
      have z6 : (ez == 0) = true := by simpa using x6
      have z7 : (ep == 0) = true := by simpa using x7
      have z8 : (eq == 0) = true := by simpa using x8
      have z9 : (ew == 0) = true := by simpa using x9
      have ZZ := Aside0.mk (And.intro z1 (And.intro z2 (And.intro z3 (And.intro z4 (And.intro z5 (And.intro z6 (And.intro z7 (And.intro z8 z9))))))))
      have E1 := Aside0.mk hs1
      have HL := Aside0.mk (And.intro hl1 hl2)
      have HM := Aside0.mk hmx
      clear x1 x2 x3 x4 x5 x6 x7 x8 x9 z1 z2 z3 z4 z5 z6 z7 z8 z9 hs1 hl1 hl2 hmx hk hg hlt l64
      obtain ⟨ad2, e0, hx0⟩ := Kd.at_int RD_a0.out.c.1 (a : Int) (by omega) (by have := GA.out; omega)
      cases e0
      simp only [Int.toNat_natCast] at hx0
      rw [GY.out] at hx0
      have n2' : decide (a1.length ≤ a) = false := by simp; have := GA.out; omega
      have ga := GA.out.1
      obtain ⟨m1, m2, m3, m3', m4, m5, m6⟩ := MM.out
      have qq_a1 : v99.cell? ⟨w.heap.size, 1, none⟩ = some (.slice A1 a2.length c1) := (blk_cell BX_a.out 1).trans rfl
      have qq_a0 : v99.cell? ⟨w.heap.size, 0, none⟩ = some (.slice (some ad) a1.length c0) := (blk_cell BX_a.out 0).trans rfl
      go_wp2_with fail
      clear m1 m2 m3 m3' m4 m5 m6 qq_a0 qq_a1 hx0
      refine (slice_o a 0 k Ha.out RD_a0.out RD_a1.out G2.out GA.out.1 (by omega) (by have := KB.out; omega) (by rw [GY.out]; have := KB.out; omega)).mono ?_
      rintro e v10 ⟨Ara, kra, A'ra, k'ra, rfl, r0, r1, hb⟩
      have RD_ra0 := Aside0.mk r0
      have RD_ra1 := Aside0.mk r1
      replace BX_a := Aside0.mk (blk_below BX_a.out hb)
      replace RD_a0 := Aside0.mk (RD_a0.out.below hb)
      replace RD_a1 := Aside0.mk (RD_a1.out.below hb)
      replace BW := Aside0.mk (below_then BW.out BW.out.size hb)
      clear hb r0 r1
      obtain ⟨u11, hu11⟩ : ∃ u, (v10.alloc (Obj.cells #[.slice Ara sa.length kra, .slice A'ra da.length k'ra] 24)) = u := ⟨_, rfl⟩
      have hbu11 : Below v10.heap.size v10 u11 := by rw [← hu11]; exact below_fold v10 [Obj.cells #[.slice Ara sa.length kra, .slice A'ra da.length k'ra] 24]
      have BX_ra : Aside0 (u11.heap[v10.heap.size]? = some (.cells #[.slice Ara sa.length kra, .slice A'ra da.length k'ra] 24 (0, 0))) := ⟨by rw [← hu11]; exact blk_fold v10 [Obj.cells #[.slice Ara sa.length kra, .slice A'ra da.length k'ra] 24] 0 _ rfl⟩
      have Hu11 := Aside0.mk hu11
      replace BX_a := Aside0.mk (blk_below BX_a.out hbu11)
      replace RD_a0 := Aside0.mk (RD_a0.out.below hbu11)
      replace RD_a1 := Aside0.mk (RD_a1.out.below hbu11)
      replace RD_ra0 := Aside0.mk (RD_ra0.out.below hbu11)
      replace RD_ra1 := Aside0.mk (RD_ra1.out.below hbu11)
      replace BW := Aside0.mk (below_then BW.out BW.out.size hbu11)
      clear hbu11 hu11
      go_wp2_with fail
      rw [Hu11.out]
      clear Hu11
      have hy0 : u11.cell? (ad.add a) = some (.int .i64 y) := by
        obtain ⟨ad3, e0, hx0⟩ := Kd.at_int RD_a0.out.c.1 (a : Int) (by omega) (by have := GA.out; omega)
        cases e0
        simp only [Int.toNat_natCast] at hx0
        rw [GY.out] at hx0
        exact hx0
      refine start_ (n := 15) (S := fun w' => w'.cell? ⟨w.heap.size, 0, none⟩ = some (.slice (some ad) a1.length c0) ∧ w'.cell? ⟨w.heap.size, 1, none⟩ = some (.slice A1 a2.length c1) ∧ w'.cell? (ad.add a) = some (.int .i64 y)) (ds := [13]) #[false, false, false, false, false, false, false, false, false, false, false, false, false, false, false] (by kernel_rfl) rfl rfl ⟨(blk_cell BX_a.out 0).trans rfl, (blk_cell BX_a.out 1).trans rfl, hy0⟩ (fun hHeld => ?_)
      clear hy0
      obtain ⟨W3, hW3⟩ : ∃ W3, u11.drew = W3 := ⟨_, rfl⟩
      have hb : Below u11.heap.size u11 W3 := by rw [← hW3]; exact (Below.refl _ _).drew
      rw [hW3] at hHeld ⊢
      clear hW3
      replace BX_a := Aside0.mk (blk_below BX_a.out hb)
      replace BX_ra := Aside0.mk (blk_below BX_ra.out hb)
      replace RD_a0 := Aside0.mk (RD_a0.out.below hb)
      replace RD_a1 := Aside0.mk (RD_a1.out.below hb)
      replace RD_ra0 := Aside0.mk (RD_ra0.out.below hb)
      replace RD_ra1 := Aside0.mk (RD_ra1.out.below hb)
      replace BW := Aside0.mk (below_then BW.out BW.out.size hb)
      clear hb
      refine pure_ (i := 1) (N := some 100) (v := ?_) (a' := ?_) #[false, true, false, false, false, false, false, false, false, false, false, false, false, false, false] rfl rfl (by kernel_rfl) (fun _ _ _ h => h) (Or.inl ⟨by rfl, ?_⟩) ?_ ?_
      rotate_left
      · intro w'
        go_simp
        with_reducible rfl
      rotate_left
      · simp only [Act.put, List.setIfInBounds_toArray, List.set_cons_zero, List.set_cons_succ]
        rfl
      refine pure_ (i := 2) (N := some 101) (v := ?_) (a' := ?_) #[false, true, true, false, false, false, false, false, false, false, false, false, false, false, false] rfl rfl (by kernel_rfl) (fun _ _ _ h => h) (Or.inl ⟨by rfl, ?_⟩) ?_ ?_
      rotate_left
      · intro w'
        go_simp
        with_reducible rfl
      rotate_left
      · simp only [Act.put, List.setIfInBounds_toArray, List.set_cons_zero, List.set_cons_succ]
        rfl
      refine pure_ (i := 3) (N := some 102) (v := ?_) (a' := ?_) #[false, true, true, true, false, false, false, false, false, false, false, false, false, false, false] rfl rfl (by kernel_rfl) (fun _ _ _ h => h) (Or.inl ⟨by rfl, ?_⟩) ?_ ?_
      rotate_left
      · intro w'
        go_simp
        with_reducible rfl
      rotate_left
      · simp only [Act.put, List.setIfInBounds_toArray, List.set_cons_zero, List.set_cons_succ]
        rfl
      refine pure_ (i := 5) (N := some 104) (v := ?_) (a' := ?_) #[false, true, true, true, false, true, false, false, false, false, false, false, false, false, false] rfl rfl (by kernel_rfl) (fun _ _ _ h => h) (Or.inl ⟨by rfl, ?_⟩) ?_ ?_
      rotate_left
      · intro w'
        go_simp
        with_reducible rfl
      rotate_left
      · simp only [Act.put, List.setIfInBounds_toArray, List.set_cons_zero, List.set_cons_succ]
        rfl
      refine take_ (i := 0) (N := some 99) (v := ?_) (a' := ?_) #[true, true, true, true, false, true, false, false, false, false, false, false, false, false, false] rfl rfl (by kernel_rfl) (fun _ _ _ h => h) (Or.inl ⟨by rfl, ?_⟩) hHeld ?_ ?_
      rotate_left
      · rintro w' ⟨s0, s1, s2⟩
        go_simp
        with_reducible rfl
      rotate_left
      · simp only [Act.put, List.setIfInBounds_toArray, List.set_cons_zero, List.set_cons_succ]
        rfl
      refine take_ (i := 4) (N := some 103) (v := ?_) (a' := ?_) #[true, true, true, true, true, true, false, false, false, false, false, false, false, false, false] rfl rfl (by kernel_rfl) (fun _ _ _ h => h) (Or.inl ⟨by rfl, ?_⟩) hHeld ?_ ?_
      rotate_left
      · rintro w' ⟨s0, s1, s2⟩
        go_simp
        with_reducible rfl
      rotate_left
      · simp only [Act.put, List.setIfInBounds_toArray, List.set_cons_zero, List.set_cons_succ]
        rfl
      refine pure_ (i := 6) (N := some 105) (v := ?_) (a' := ?_) #[true, true, true, true, true, true, true, false, false, false, false, false, false, false, false] rfl rfl (by kernel_rfl) (fun _ _ _ h => h) (Or.inl ⟨by rfl, ?_⟩) ?_ ?_
      rotate_left
      · intro w'
        go_simp
        with_reducible rfl
      rotate_left
      · simp only [Act.put, List.setIfInBounds_toArray, List.set_cons_zero, List.set_cons_succ]
        rfl
      refine take_ (i := 7) (N := some 106) (v := ?_) (a' := ?_) #[true, true, true, true, true, true, true, true, false, false, false, false, false, false, false] rfl rfl (by kernel_rfl) (fun _ _ _ h => h) (Or.inl ⟨by rfl, ?_⟩) hHeld ?_ ?_
      rotate_left
      · rintro w' ⟨s0, s1, s2⟩
        go_simp
        with_reducible rfl
      rotate_left
      · simp only [Act.put, List.setIfInBounds_toArray, List.set_cons_zero, List.set_cons_succ]
        rfl
      refine join_ (σ := Nat × Option Addr × Nat × Option Addr × Nat) 2 #[true, true, true, true, true, true, true, true, true, true, true, true, true, false, false] (fun s_ => [(107, .tuple #[.agg #[.slice s_.2.1 sb.length s_.2.2.1, .slice s_.2.2.2.1 db.length s_.2.2.2.2], .int .i64 eb]), (98, .tuple #[.agg #[.slice s_.2.1 sb.length s_.2.2.1, .slice s_.2.2.2.1 db.length s_.2.2.2.2], .int .i64 eb]), (108, .agg #[.slice s_.2.1 sb.length s_.2.2.1, .slice s_.2.2.2.1 db.length s_.2.2.2.2]), (109, .int .i64 eb), (12, .pointer (some ⟨s_.1, 0, none⟩))]) (fun s_ w' => Below W3.heap.size W3 w' ∧ W3.heap.size ≤ s_.1 ∧ w'.heap[s_.1]? = some (.cells #[.slice none 0 0, .slice none 0 0] 24 (0, 0)) ∧ ∀ x y, Rd ((w'.setCell ⟨s_.1, 0, none⟩ x).setCell ⟨s_.1, 1, none⟩ y) (.slice s_.2.1 sb.length s_.2.2.1) sb ∧ Rd ((w'.setCell ⟨s_.1, 0, none⟩ x).setCell ⟨s_.1, 1, none⟩ y) (.slice s_.2.2.2.1 db.length s_.2.2.2.2) db) ?_ ?_
      rotate_left
      · intro hCont
        refine two_ (i := 8) (j := 12) (Ni := some 107) (Nj := some 12) #[true, true, true, true, true, true, true, true, true, false, false, false, false, false, false] #[true, true, true, true, true, true, true, true, false, false, false, false, true, false, false] rfl rfl rfl rfl (by kernel_rfl) (by decide) (by decide) (fun K hK => ?_) (fun K hK => ?_)
        · skip
          refine goes_ Try.func42 (by kernel_rfl) rfl #[.agg #[.slice (some ad) a1.length c0, .slice A1 a2.length c1], .int .i64 (a : Int), .int .i64 k, .int .i64 y] (by rfl) rfl rfl (by (try simp only [List.map_toArray, List.map_cons, List.map_nil]); first | done | rfl) ?_
          refine (slice_n a k y Hb.out RD_a0.out RD_a1.out G2.out GA.out.1 (by have := KB.out; omega) (by have := KB.out; omega) (by rw [GY.out]; exact Int.le_refl _)).mono ?_
          rintro e W4 ⟨A, c, A', c', rfl, rs, rd_, hb⟩
          refine ⟨_, rfl, ?_⟩
          refine hK.out _ _ ⟨pw_cell_below hb hHeld.1, pw_cell_below hb hHeld.2.1, pw_cell_below hb hHeld.2.2⟩ (fun hHeld => ?_)
          clear hK K
          refine norm_ (a' := ?_) ?_ ?_
          rotate_left
          · show Act.put _ (some 107) _ = _
            simp only [Act.put, List.setIfInBounds_toArray, List.set_cons_zero, List.set_cons_succ]
            rfl
          refine pure_ (i := 9) (N := some 98) (v := ?_) (a' := ?_) #[true, true, true, true, true, true, true, true, true, true, false, false, false, false, false] rfl rfl (by kernel_rfl) (fun _ _ _ h => h) (Or.inl ⟨by rfl, ?_⟩) ?_ ?_
          rotate_left
          · intro w'
            go_simp
            with_reducible rfl
          rotate_left
          · simp only [Act.put, List.setIfInBounds_toArray, List.set_cons_zero, List.set_cons_succ]
            rfl
          refine pure_ (i := 10) (N := some 108) (v := ?_) (a' := ?_) #[true, true, true, true, true, true, true, true, true, true, true, false, false, false, false] rfl rfl (by kernel_rfl) (fun _ _ _ h => h) (Or.inl ⟨by rfl, ?_⟩) ?_ ?_
          rotate_left
          · intro w'
            go_simp
            with_reducible rfl
          rotate_left
          · simp only [Act.put, List.setIfInBounds_toArray, List.set_cons_zero, List.set_cons_succ]
            rfl
          refine pure_ (i := 11) (N := some 109) (v := ?_) (a' := ?_) #[true, true, true, true, true, true, true, true, true, true, true, true, false, false, false] rfl rfl (by kernel_rfl) (fun _ _ _ h => h) (Or.inl ⟨by rfl, ?_⟩) ?_ ?_
          rotate_left
          · intro w'
            go_simp
            with_reducible rfl
          rotate_left
          · simp only [Act.put, List.setIfInBounds_toArray, List.set_cons_zero, List.set_cons_succ]
            rfl
          refine one_ (i := 12) (N := some 12) #[true, true, true, true, true, true, true, true, true, true, true, true, true, false, false] rfl rfl (by kernel_rfl) (by decide) (fun K hK => ?_)
          refine value_ (w1 := ?_) (v := ?_) (by rfl) rfl ?_ ?_
          rotate_left 2
          · go_simp
            constructor
            · rfl
            · rfl
          refine hK.out _ _ ⟨(World.cell?_alloc_lt _ _ _ (World.block_lt_of_cell? _ _ hHeld.1)).trans hHeld.1, (World.cell?_alloc_lt _ _ _ (World.block_lt_of_cell? _ _ hHeld.2.1)).trans hHeld.2.1, (World.cell?_alloc_lt _ _ _ (World.block_lt_of_cell? _ _ hHeld.2.2)).trans hHeld.2.2⟩ (fun hHeld => ?_)
          clear hK K
          refine norm_ (a' := ?_) ?_ ?_
          rotate_left
          · show Act.put _ (some 12) _ = _
            simp only [Act.put, List.setIfInBounds_toArray, List.set_cons_zero, List.set_cons_succ]
            rfl
          exact norm_ (by simp only [putAll, Act.put, List.setIfInBounds_toArray, List.set_cons_zero, List.set_cons_succ]) (hCont (W4.heap.size, A, c, A', c') _ ⟨hb.trans ((below_alloc (Below.refl W4.heap.size W4) _).mono hb.size), hb.size, blk_new _ _, fun x y => ⟨(rs.rd.below (((below_alloc (Below.refl W4.heap.size W4) _).setCell (p := ⟨W4.heap.size, 0, none⟩) (Nat.le_refl _) x).setCell (p := ⟨W4.heap.size, 1, none⟩) (Nat.le_refl _) y)), (rd_.rd.below (((below_alloc (Below.refl W4.heap.size W4) _).setCell (p := ⟨W4.heap.size, 0, none⟩) (Nat.le_refl _) x).setCell (p := ⟨W4.heap.size, 1, none⟩) (Nat.le_refl _) y))⟩⟩)
        · skip
          refine value_ (w1 := ?_) (v := ?_) (by rfl) rfl ?_ ?_
          rotate_left 2
          · go_simp
            constructor
            · rfl
            · rfl
          refine hK.out _ _ ⟨(World.cell?_alloc_lt _ _ _ (World.block_lt_of_cell? _ _ hHeld.1)).trans hHeld.1, (World.cell?_alloc_lt _ _ _ (World.block_lt_of_cell? _ _ hHeld.2.1)).trans hHeld.2.1, (World.cell?_alloc_lt _ _ _ (World.block_lt_of_cell? _ _ hHeld.2.2)).trans hHeld.2.2⟩ (fun hHeld => ?_)
          clear hK K
          refine norm_ (a' := ?_) ?_ ?_
          rotate_left
          · show Act.put _ (some 12) _ = _
            simp only [Act.put, List.setIfInBounds_toArray, List.set_cons_zero, List.set_cons_succ]
            rfl
          obtain ⟨W4, hW4⟩ : ∃ W4, W3.alloc (Obj.cells #[.slice none 0 0, .slice none 0 0] 24) = W4 := ⟨_, rfl⟩
          have hb4 : Below W3.heap.size W3 W4 := by rw [← hW4]; exact below_alloc (Below.refl _ _) _
          have hg4 : W4.heap[W3.heap.size]? = some (.cells #[.slice none 0 0, .slice none 0 0] 24 (0, 0)) := by rw [← hW4]; exact blk_new _ _
          rw [hW4] at hHeld ⊢
          clear hW4
          refine one_ (i := 8) (N := some 107) #[true, true, true, true, true, true, true, true, true, false, false, false, true, false, false] rfl rfl (by kernel_rfl) (by decide) (fun K hK => ?_)
          refine goes_ Try.func42 (by kernel_rfl) rfl #[.agg #[.slice (some ad) a1.length c0, .slice A1 a2.length c1], .int .i64 (a : Int), .int .i64 k, .int .i64 y] (by rfl) rfl rfl (by (try simp only [List.map_toArray, List.map_cons, List.map_nil]); first | done | rfl) ?_
          refine (slice_n a k y Hb.out (RD_a0.out.below hb4) (RD_a1.out.below hb4) G2.out GA.out.1 (by have := KB.out; omega) (by have := KB.out; omega) (by rw [GY.out]; exact Int.le_refl _)).mono ?_
          rintro e W5 ⟨A, c, A', c', rfl, rs, rd_, hb⟩
          refine ⟨_, rfl, ?_⟩
          refine hK.out _ _ ⟨pw_cell_below hb hHeld.1, pw_cell_below hb hHeld.2.1, pw_cell_below hb hHeld.2.2⟩ (fun hHeld => ?_)
          clear hK K
          refine norm_ (a' := ?_) ?_ ?_
          rotate_left
          · show Act.put _ (some 107) _ = _
            simp only [Act.put, List.setIfInBounds_toArray, List.set_cons_zero, List.set_cons_succ]
            rfl
          refine pure_ (i := 9) (N := some 98) (v := ?_) (a' := ?_) #[true, true, true, true, true, true, true, true, true, true, false, false, true, false, false] rfl rfl (by kernel_rfl) (fun _ _ _ h => h) (Or.inl ⟨by rfl, ?_⟩) ?_ ?_
          rotate_left
          · intro w'
            go_simp
            with_reducible rfl
          rotate_left
          · simp only [Act.put, List.setIfInBounds_toArray, List.set_cons_zero, List.set_cons_succ]
            rfl
          refine pure_ (i := 10) (N := some 108) (v := ?_) (a' := ?_) #[true, true, true, true, true, true, true, true, true, true, true, false, true, false, false] rfl rfl (by kernel_rfl) (fun _ _ _ h => h) (Or.inl ⟨by rfl, ?_⟩) ?_ ?_
          rotate_left
          · intro w'
            go_simp
            with_reducible rfl
          rotate_left
          · simp only [Act.put, List.setIfInBounds_toArray, List.set_cons_zero, List.set_cons_succ]
            rfl
          refine pure_ (i := 11) (N := some 109) (v := ?_) (a' := ?_) #[true, true, true, true, true, true, true, true, true, true, true, true, true, false, false] rfl rfl (by kernel_rfl) (fun _ _ _ h => h) (Or.inl ⟨by rfl, ?_⟩) ?_ ?_
          rotate_left
          · intro w'
            go_simp
            with_reducible rfl
          rotate_left
          · simp only [Act.put, List.setIfInBounds_toArray, List.set_cons_zero, List.set_cons_succ]
            rfl
          exact norm_ (by simp only [putAll, Act.put, List.setIfInBounds_toArray, List.set_cons_zero, List.set_cons_succ]) (hCont (W3.heap.size, A, c, A', c') _ ⟨hb4.trans (hb.mono hb4.size), Nat.le_refl _, blk_below hg4 hb, fun x y => ⟨(rs _ (fun q h1 _ => by have := blk_lt hg4; rw [set_far _ _ _ _ (by show q ≠ W3.heap.size; omega), set_far _ _ _ _ (by show q ≠ W3.heap.size; omega)])), (rd_ _ (fun q h1 _ => by have := blk_lt hg4; rw [set_far _ _ _ _ (by show q ≠ W3.heap.size; omega), set_far _ _ _ _ (by show q ≠ W3.heap.size; omega)]))⟩⟩)
      rintro ⟨gb, Ab, kb, A'b, k'b⟩ W6 ⟨hB6, hgb, hblk, hrd⟩
      dsimp only at hgb hblk hrd
      refine norm_ (a' := ?_) ?_ ?_
      rotate_left
      · simp only [putAll, Act.put, List.setIfInBounds_toArray, List.set_cons_zero, List.set_cons_succ]
        rfl
      refine last_ (i := 13) (N := none) #[true, true, true, true, true, true, true, true, true, true, true, true, true, true, false] rfl rfl (by kernel_rfl) (by decide) (fun K hK => ?_)
      have hs0 : W6.cell? ⟨gb, 0, none⟩ = some (.slice none 0 0) := (blk_cell hblk 0).trans rfl
      have hs1 : W6.cell? ⟨gb, 1, none⟩ = some (.slice none 0 0) := (blk_cell hblk 1).trans rfl
      have hf0 := blk_frozen hblk 0
      have hf1 := blk_frozen hblk 1
      refine skip_ (w1 := ?_) (by rfl) rfl ?_ ?_
      rotate_left
      · go_simp
        rfl
      refine hK.out _ _ ?_
      clear hK K hs0 hs1 hf0 hf1
      refine pure_ (i := 14) (N := some 13) (v := ?_) (a' := ?_) #[true, true, true, true, true, true, true, true, true, true, true, true, true, true, true] rfl rfl (by kernel_rfl) (fun _ _ _ h => h) (Or.inl ⟨by rfl, ?_⟩) ?_ ?_
      rotate_left
      · intro w'
        go_simp
        with_reducible rfl
      rotate_left
      · simp only [Act.put, List.setIfInBounds_toArray, List.set_cons_zero, List.set_cons_succ]
        rfl
      refine done_ (by kernel_rfl) ?_
      obtain ⟨v50, hv50⟩ : ∃ v, ((W6.setCell ⟨gb, 0, none⟩ (.slice Ab sb.length kb)).setCell ⟨gb, 1, none⟩ (.slice A'b db.length k'b)) = v := ⟨_, rfl⟩
      have hb : Below W3.heap.size W3 v50 := by rw [← hv50]; exact (hB6.setCell (p := ⟨gb, 0, none⟩) hgb _).setCell (p := ⟨gb, 1, none⟩) hgb _
      have BX_rb : Aside0 (v50.heap[gb]? = some (.cells #[.slice Ab sb.length kb, .slice A'b db.length k'b] 24 (0, 0))) := ⟨by rw [← hv50]; exact set_cells2 hblk⟩
      have RD_rb0 := Aside0.mk (hrd (.slice Ab sb.length kb) (.slice A'b db.length k'b)).1
      have RD_rb1 := Aside0.mk (hrd (.slice Ab sb.length kb) (.slice A'b db.length k'b)).2
      rw [hv50] at RD_rb0 RD_rb1 ⊢
      clear hv50 hrd hblk hB6 hHeld
      replace BX_a := Aside0.mk (blk_below BX_a.out hb)
      replace BX_ra := Aside0.mk (blk_below BX_ra.out hb)
      replace RD_a0 := Aside0.mk (RD_a0.out.below hb)
      replace RD_a1 := Aside0.mk (RD_a1.out.below hb)
      replace RD_ra0 := Aside0.mk (RD_ra0.out.below hb)
      replace RD_ra1 := Aside0.mk (RD_ra1.out.below hb)
      replace BW := Aside0.mk (below_then BW.out BW.out.size hb)
      clear hb hgb
      have q12 : v50.cell? ⟨v10.heap.size, 0, none⟩ = some (.slice Ara sa.length kra) := (blk_cell BX_ra.out 0).trans rfl
      have q13 : v50.cell? ⟨v10.heap.size, 1, none⟩ = some (.slice A'ra da.length k'ra) := (blk_cell BX_ra.out 1).trans rfl
      go_wp2_with fail
      clear q12 q13
      refine (sum_o (a : Nat) Hx.out RD_ra0.out RD_ra1.out IA.out).mono ?_
      rintro e v14 ⟨Arx, krx, A'rx, k'rx, rfl, r0, r1, hb⟩
      have RD_rx0 := Aside0.mk r0
      have RD_rx1 := Aside0.mk r1
      replace BX_a := Aside0.mk (blk_below BX_a.out hb)
      replace BX_ra := Aside0.mk (blk_below BX_ra.out hb)
      replace BX_rb := Aside0.mk (blk_below BX_rb.out hb)
      replace RD_a0 := Aside0.mk (RD_a0.out.below hb)
      replace RD_a1 := Aside0.mk (RD_a1.out.below hb)
      replace RD_ra0 := Aside0.mk (RD_ra0.out.below hb)
      replace RD_ra1 := Aside0.mk (RD_ra1.out.below hb)
      replace RD_rb0 := Aside0.mk (RD_rb0.out.below hb)
      replace RD_rb1 := Aside0.mk (RD_rb1.out.below hb)
      replace BW := Aside0.mk (below_then BW.out BW.out.size hb)
      clear hb r0 r1
      have q15 : (v14.alloc (Obj.cells #[.slice Arx sx.length krx, .slice A'rx dx.length k'rx] 24)).cell? ⟨gb, 0, none⟩ = some (.slice Ab sb.length kb) := (blk_cell (blk_below BX_rb.out (below_fold v14 [Obj.cells #[.slice Arx sx.length krx, .slice A'rx dx.length k'rx] 24])) 0).trans rfl
      have q16 : (v14.alloc (Obj.cells #[.slice Arx sx.length krx, .slice A'rx dx.length k'rx] 24)).cell? ⟨gb, 1, none⟩ = some (.slice A'b db.length k'b) := (blk_cell (blk_below BX_rb.out (below_fold v14 [Obj.cells #[.slice Arx sx.length krx, .slice A'rx dx.length k'rx] 24])) 1).trans rfl
      obtain ⟨u17, hu17⟩ : ∃ u, (v14.alloc (Obj.cells #[.slice Arx sx.length krx, .slice A'rx dx.length k'rx] 24)) = u := ⟨_, rfl⟩
      have hbu17 : Below v14.heap.size v14 u17 := by rw [← hu17]; exact below_fold v14 [Obj.cells #[.slice Arx sx.length krx, .slice A'rx dx.length k'rx] 24]
      have BX_rx : Aside0 (u17.heap[v14.heap.size]? = some (.cells #[.slice Arx sx.length krx, .slice A'rx dx.length k'rx] 24 (0, 0))) := ⟨by rw [← hu17]; exact blk_fold v14 [Obj.cells #[.slice Arx sx.length krx, .slice A'rx dx.length k'rx] 24] 0 _ rfl⟩
      have Hu17 := Aside0.mk hu17
      replace BX_a := Aside0.mk (blk_below BX_a.out hbu17)
      replace BX_ra := Aside0.mk (blk_below BX_ra.out hbu17)
      replace BX_rb := Aside0.mk (blk_below BX_rb.out hbu17)
      replace RD_a0 := Aside0.mk (RD_a0.out.below hbu17)
      replace RD_a1 := Aside0.mk (RD_a1.out.below hbu17)
      replace RD_ra0 := Aside0.mk (RD_ra0.out.below hbu17)
      replace RD_ra1 := Aside0.mk (RD_ra1.out.below hbu17)
      replace RD_rb0 := Aside0.mk (RD_rb0.out.below hbu17)
      replace RD_rb1 := Aside0.mk (RD_rb1.out.below hbu17)
      replace RD_rx0 := Aside0.mk (RD_rx0.out.below hbu17)
      replace RD_rx1 := Aside0.mk (RD_rx1.out.below hbu17)
      replace BW := Aside0.mk (below_then BW.out BW.out.size hbu17)
      clear hbu17 hu17
      go_wp2_with fail
      rw [Hu17.out]
      clear q15 q16
      clear Hu17
      refine (sum_o (a : Nat) Hy.out RD_rb0.out RD_rb1.out IB.out).mono ?_
      rintro e v18 ⟨Ary, kry, A'ry, k'ry, rfl, r0, r1, hb⟩
      have RD_ry0 := Aside0.mk r0
      have RD_ry1 := Aside0.mk r1
      replace BX_a := Aside0.mk (blk_below BX_a.out hb)
      replace BX_ra := Aside0.mk (blk_below BX_ra.out hb)
      replace BX_rb := Aside0.mk (blk_below BX_rb.out hb)
      replace BX_rx := Aside0.mk (blk_below BX_rx.out hb)
      replace RD_a0 := Aside0.mk (RD_a0.out.below hb)
      replace RD_a1 := Aside0.mk (RD_a1.out.below hb)
      replace RD_ra0 := Aside0.mk (RD_ra0.out.below hb)
      replace RD_ra1 := Aside0.mk (RD_ra1.out.below hb)
      replace RD_rb0 := Aside0.mk (RD_rb0.out.below hb)
      replace RD_rb1 := Aside0.mk (RD_rb1.out.below hb)
      replace RD_rx0 := Aside0.mk (RD_rx0.out.below hb)
      replace RD_rx1 := Aside0.mk (RD_rx1.out.below hb)
      replace BW := Aside0.mk (below_then BW.out BW.out.size hb)
      clear hb r0 r1
      have q19 : (v18.alloc (Obj.cells #[.slice Ary sy.length kry, .slice A'ry dy.length k'ry] 24)).cell? ⟨w.heap.size, 0, none⟩ = some (.slice (some ad) a1.length c0) := (blk_cell (blk_below BX_a.out (below_fold v18 [Obj.cells #[.slice Ary sy.length kry, .slice A'ry dy.length k'ry] 24])) 0).trans rfl
      have q20 : (v18.alloc (Obj.cells #[.slice Ary sy.length kry, .slice A'ry dy.length k'ry] 24)).cell? ⟨w.heap.size, 1, none⟩ = some (.slice A1 a2.length c1) := (blk_cell (blk_below BX_a.out (below_fold v18 [Obj.cells #[.slice Ary sy.length kry, .slice A'ry dy.length k'ry] 24])) 1).trans rfl
      obtain ⟨u21, hu21⟩ : ∃ u, (v18.alloc (Obj.cells #[.slice Ary sy.length kry, .slice A'ry dy.length k'ry] 24)) = u := ⟨_, rfl⟩
      have hbu21 : Below v18.heap.size v18 u21 := by rw [← hu21]; exact below_fold v18 [Obj.cells #[.slice Ary sy.length kry, .slice A'ry dy.length k'ry] 24]
      have BX_ry : Aside0 (u21.heap[v18.heap.size]? = some (.cells #[.slice Ary sy.length kry, .slice A'ry dy.length k'ry] 24 (0, 0))) := ⟨by rw [← hu21]; exact blk_fold v18 [Obj.cells #[.slice Ary sy.length kry, .slice A'ry dy.length k'ry] 24] 0 _ rfl⟩
      have Hu21 := Aside0.mk hu21
      replace BX_a := Aside0.mk (blk_below BX_a.out hbu21)
      replace BX_ra := Aside0.mk (blk_below BX_ra.out hbu21)
      replace BX_rb := Aside0.mk (blk_below BX_rb.out hbu21)
      replace BX_rx := Aside0.mk (blk_below BX_rx.out hbu21)
      replace RD_a0 := Aside0.mk (RD_a0.out.below hbu21)
      replace RD_a1 := Aside0.mk (RD_a1.out.below hbu21)
      replace RD_ra0 := Aside0.mk (RD_ra0.out.below hbu21)
      replace RD_ra1 := Aside0.mk (RD_ra1.out.below hbu21)
      replace RD_rb0 := Aside0.mk (RD_rb0.out.below hbu21)
      replace RD_rb1 := Aside0.mk (RD_rb1.out.below hbu21)
      replace RD_rx0 := Aside0.mk (RD_rx0.out.below hbu21)
      replace RD_rx1 := Aside0.mk (RD_rx1.out.below hbu21)
      replace RD_ry0 := Aside0.mk (RD_ry0.out.below hbu21)
      replace RD_ry1 := Aside0.mk (RD_ry1.out.below hbu21)
      replace BW := Aside0.mk (below_then BW.out BW.out.size hbu21)
      clear hbu21 hu21
      go_wp2_with fail
      rw [Hu21.out]
      clear q19 q20
      clear Hu21
      refine (sum_o (a : Nat) Hs.out RD_a0.out RD_a1.out I1.out).mono ?_
      rintro e v22 ⟨Ars, krs, A'rs, k'rs, rfl, r0, r1, hb⟩
      have RD_rs0 := Aside0.mk r0
      have RD_rs1 := Aside0.mk r1
      replace BX_a := Aside0.mk (blk_below BX_a.out hb)
      replace BX_ra := Aside0.mk (blk_below BX_ra.out hb)
      replace BX_rb := Aside0.mk (blk_below BX_rb.out hb)
      replace BX_rx := Aside0.mk (blk_below BX_rx.out hb)
      replace BX_ry := Aside0.mk (blk_below BX_ry.out hb)
      replace RD_a0 := Aside0.mk (RD_a0.out.below hb)
      replace RD_a1 := Aside0.mk (RD_a1.out.below hb)
      replace RD_ra0 := Aside0.mk (RD_ra0.out.below hb)
      replace RD_ra1 := Aside0.mk (RD_ra1.out.below hb)
      replace RD_rb0 := Aside0.mk (RD_rb0.out.below hb)
      replace RD_rb1 := Aside0.mk (RD_rb1.out.below hb)
      replace RD_rx0 := Aside0.mk (RD_rx0.out.below hb)
      replace RD_rx1 := Aside0.mk (RD_rx1.out.below hb)
      replace RD_ry0 := Aside0.mk (RD_ry0.out.below hb)
      replace RD_ry1 := Aside0.mk (RD_ry1.out.below hb)
      replace BW := Aside0.mk (below_then BW.out BW.out.size hb)
      clear hb r0 r1
      have q23 : (v22.alloc (Obj.cells #[.slice Ars ss.length krs, .slice A'rs ds.length k'rs] 24)).cell? ⟨v14.heap.size, 0, none⟩ = some (.slice Arx sx.length krx) := (blk_cell (blk_below BX_rx.out (below_fold v22 [Obj.cells #[.slice Ars ss.length krs, .slice A'rs ds.length k'rs] 24])) 0).trans rfl
      have q24 : (v22.alloc (Obj.cells #[.slice Ars ss.length krs, .slice A'rs ds.length k'rs] 24)).cell? ⟨v14.heap.size, 1, none⟩ = some (.slice A'rx dx.length k'rx) := (blk_cell (blk_below BX_rx.out (below_fold v22 [Obj.cells #[.slice Ars ss.length krs, .slice A'rs ds.length k'rs] 24])) 1).trans rfl
      have q25 : (v22.alloc (Obj.cells #[.slice Ars ss.length krs, .slice A'rs ds.length k'rs] 24)).cell? ⟨v18.heap.size, 0, none⟩ = some (.slice Ary sy.length kry) := (blk_cell (blk_below BX_ry.out (below_fold v22 [Obj.cells #[.slice Ars ss.length krs, .slice A'rs ds.length k'rs] 24])) 0).trans rfl
      have q26 : (v22.alloc (Obj.cells #[.slice Ars ss.length krs, .slice A'rs ds.length k'rs] 24)).cell? ⟨v18.heap.size, 1, none⟩ = some (.slice A'ry dy.length k'ry) := (blk_cell (blk_below BX_ry.out (below_fold v22 [Obj.cells #[.slice Ars ss.length krs, .slice A'rs ds.length k'rs] 24])) 1).trans rfl
      obtain ⟨u27, hu27⟩ : ∃ u, (v22.alloc (Obj.cells #[.slice Ars ss.length krs, .slice A'rs ds.length k'rs] 24)) = u := ⟨_, rfl⟩
      have hbu27 : Below v22.heap.size v22 u27 := by rw [← hu27]; exact below_fold v22 [Obj.cells #[.slice Ars ss.length krs, .slice A'rs ds.length k'rs] 24]
      have BX_rs : Aside0 (u27.heap[v22.heap.size]? = some (.cells #[.slice Ars ss.length krs, .slice A'rs ds.length k'rs] 24 (0, 0))) := ⟨by rw [← hu27]; exact blk_fold v22 [Obj.cells #[.slice Ars ss.length krs, .slice A'rs ds.length k'rs] 24] 0 _ rfl⟩
      have Hu27 := Aside0.mk hu27
      replace BX_a := Aside0.mk (blk_below BX_a.out hbu27)
      replace BX_ra := Aside0.mk (blk_below BX_ra.out hbu27)
      replace BX_rb := Aside0.mk (blk_below BX_rb.out hbu27)
      replace BX_rx := Aside0.mk (blk_below BX_rx.out hbu27)
      replace BX_ry := Aside0.mk (blk_below BX_ry.out hbu27)
      replace RD_a0 := Aside0.mk (RD_a0.out.below hbu27)
      replace RD_a1 := Aside0.mk (RD_a1.out.below hbu27)
      replace RD_ra0 := Aside0.mk (RD_ra0.out.below hbu27)
      replace RD_ra1 := Aside0.mk (RD_ra1.out.below hbu27)
      replace RD_rb0 := Aside0.mk (RD_rb0.out.below hbu27)
      replace RD_rb1 := Aside0.mk (RD_rb1.out.below hbu27)
      replace RD_rx0 := Aside0.mk (RD_rx0.out.below hbu27)
      replace RD_rx1 := Aside0.mk (RD_rx1.out.below hbu27)
      replace RD_ry0 := Aside0.mk (RD_ry0.out.below hbu27)
      replace RD_ry1 := Aside0.mk (RD_ry1.out.below hbu27)
      replace RD_rs0 := Aside0.mk (RD_rs0.out.below hbu27)
      replace RD_rs1 := Aside0.mk (RD_rs1.out.below hbu27)
      replace BW := Aside0.mk (below_then BW.out BW.out.size hbu27)
      clear hbu27 hu27
      go_wp2_with fail
      rw [Hu27.out]
      clear q23 q24 q25 q26
      clear Hu27
      refine (two_r 10 Hz.out RD_rx0.out RD_rx1.out RD_ry0.out RD_ry1.out IX.out IY.out).mono ?_
      rintro e v28 ⟨Arz, krz, A'rz, k'rz, rfl, r0, r1, hb⟩
      have RD_rz0 := Aside0.mk r0
      have RD_rz1 := Aside0.mk r1
      replace BX_a := Aside0.mk (blk_below BX_a.out hb)
      replace BX_ra := Aside0.mk (blk_below BX_ra.out hb)
      replace BX_rb := Aside0.mk (blk_below BX_rb.out hb)
      replace BX_rx := Aside0.mk (blk_below BX_rx.out hb)
      replace BX_ry := Aside0.mk (blk_below BX_ry.out hb)
      replace BX_rs := Aside0.mk (blk_below BX_rs.out hb)
      replace RD_a0 := Aside0.mk (RD_a0.out.below hb)
      replace RD_a1 := Aside0.mk (RD_a1.out.below hb)
      replace RD_ra0 := Aside0.mk (RD_ra0.out.below hb)
      replace RD_ra1 := Aside0.mk (RD_ra1.out.below hb)
      replace RD_rb0 := Aside0.mk (RD_rb0.out.below hb)
      replace RD_rb1 := Aside0.mk (RD_rb1.out.below hb)
      replace RD_rx0 := Aside0.mk (RD_rx0.out.below hb)
      replace RD_rx1 := Aside0.mk (RD_rx1.out.below hb)
      replace RD_ry0 := Aside0.mk (RD_ry0.out.below hb)
      replace RD_ry1 := Aside0.mk (RD_ry1.out.below hb)
      replace RD_rs0 := Aside0.mk (RD_rs0.out.below hb)
      replace RD_rs1 := Aside0.mk (RD_rs1.out.below hb)
      replace BW := Aside0.mk (below_then BW.out BW.out.size hb)
      clear hb r0 r1
      have q29 : (v28.alloc (Obj.cells #[.slice Arz sz.length krz, .slice A'rz dz.length k'rz] 24)).cell? ⟨v10.heap.size, 0, none⟩ = some (.slice Ara sa.length kra) := (blk_cell (blk_below BX_ra.out (below_fold v28 [Obj.cells #[.slice Arz sz.length krz, .slice A'rz dz.length k'rz] 24])) 0).trans rfl
      have q30 : (v28.alloc (Obj.cells #[.slice Arz sz.length krz, .slice A'rz dz.length k'rz] 24)).cell? ⟨v10.heap.size, 1, none⟩ = some (.slice A'ra da.length k'ra) := (blk_cell (blk_below BX_ra.out (below_fold v28 [Obj.cells #[.slice Arz sz.length krz, .slice A'rz dz.length k'rz] 24])) 1).trans rfl
      obtain ⟨u31, hu31⟩ : ∃ u, (v28.alloc (Obj.cells #[.slice Arz sz.length krz, .slice A'rz dz.length k'rz] 24)) = u := ⟨_, rfl⟩
      have hbu31 : Below v28.heap.size v28 u31 := by rw [← hu31]; exact below_fold v28 [Obj.cells #[.slice Arz sz.length krz, .slice A'rz dz.length k'rz] 24]
      have BX_rz : Aside0 (u31.heap[v28.heap.size]? = some (.cells #[.slice Arz sz.length krz, .slice A'rz dz.length k'rz] 24 (0, 0))) := ⟨by rw [← hu31]; exact blk_fold v28 [Obj.cells #[.slice Arz sz.length krz, .slice A'rz dz.length k'rz] 24] 0 _ rfl⟩
      have Hu31 := Aside0.mk hu31
      replace BX_a := Aside0.mk (blk_below BX_a.out hbu31)
      replace BX_ra := Aside0.mk (blk_below BX_ra.out hbu31)
      replace BX_rb := Aside0.mk (blk_below BX_rb.out hbu31)
      replace BX_rx := Aside0.mk (blk_below BX_rx.out hbu31)
      replace BX_ry := Aside0.mk (blk_below BX_ry.out hbu31)
      replace BX_rs := Aside0.mk (blk_below BX_rs.out hbu31)
      replace RD_a0 := Aside0.mk (RD_a0.out.below hbu31)
      replace RD_a1 := Aside0.mk (RD_a1.out.below hbu31)
      replace RD_ra0 := Aside0.mk (RD_ra0.out.below hbu31)
      replace RD_ra1 := Aside0.mk (RD_ra1.out.below hbu31)
      replace RD_rb0 := Aside0.mk (RD_rb0.out.below hbu31)
      replace RD_rb1 := Aside0.mk (RD_rb1.out.below hbu31)
      replace RD_rx0 := Aside0.mk (RD_rx0.out.below hbu31)
      replace RD_rx1 := Aside0.mk (RD_rx1.out.below hbu31)
      replace RD_ry0 := Aside0.mk (RD_ry0.out.below hbu31)
      replace RD_ry1 := Aside0.mk (RD_ry1.out.below hbu31)
      replace RD_rs0 := Aside0.mk (RD_rs0.out.below hbu31)
      replace RD_rs1 := Aside0.mk (RD_rs1.out.below hbu31)
      replace RD_rz0 := Aside0.mk (RD_rz0.out.below hbu31)
      replace RD_rz1 := Aside0.mk (RD_rz1.out.below hbu31)
      replace BW := Aside0.mk (below_then BW.out BW.out.size hbu31)
      clear hbu31 hu31
      go_wp2_with fail
      rw [Hu31.out]
      clear q29 q30
      clear Hu31
      refine (max_o (a : Nat) Hp.out RD_ra0.out RD_ra1.out IA.out).mono ?_
      rintro e v32 ⟨Arp, krp, A'rp, k'rp, rfl, r0, r1, hb⟩
      have RD_rp0 := Aside0.mk r0
      have RD_rp1 := Aside0.mk r1
      replace BX_a := Aside0.mk (blk_below BX_a.out hb)
      replace BX_ra := Aside0.mk (blk_below BX_ra.out hb)
      replace BX_rb := Aside0.mk (blk_below BX_rb.out hb)
      replace BX_rx := Aside0.mk (blk_below BX_rx.out hb)
      replace BX_ry := Aside0.mk (blk_below BX_ry.out hb)
      replace BX_rs := Aside0.mk (blk_below BX_rs.out hb)
      replace BX_rz := Aside0.mk (blk_below BX_rz.out hb)
      replace RD_a0 := Aside0.mk (RD_a0.out.below hb)
      replace RD_a1 := Aside0.mk (RD_a1.out.below hb)
      replace RD_ra0 := Aside0.mk (RD_ra0.out.below hb)
      replace RD_ra1 := Aside0.mk (RD_ra1.out.below hb)
      replace RD_rb0 := Aside0.mk (RD_rb0.out.below hb)
      replace RD_rb1 := Aside0.mk (RD_rb1.out.below hb)
      replace RD_rx0 := Aside0.mk (RD_rx0.out.below hb)
      replace RD_rx1 := Aside0.mk (RD_rx1.out.below hb)
      replace RD_ry0 := Aside0.mk (RD_ry0.out.below hb)
      replace RD_ry1 := Aside0.mk (RD_ry1.out.below hb)
      replace RD_rs0 := Aside0.mk (RD_rs0.out.below hb)
      replace RD_rs1 := Aside0.mk (RD_rs1.out.below hb)
      replace RD_rz0 := Aside0.mk (RD_rz0.out.below hb)
      replace RD_rz1 := Aside0.mk (RD_rz1.out.below hb)
      replace BW := Aside0.mk (below_then BW.out BW.out.size hb)
      clear hb r0 r1
      have q33 : (v32.alloc (Obj.cells #[.slice Arp sp.length krp, .slice A'rp dp.length k'rp] 24)).cell? ⟨gb, 0, none⟩ = some (.slice Ab sb.length kb) := (blk_cell (blk_below BX_rb.out (below_fold v32 [Obj.cells #[.slice Arp sp.length krp, .slice A'rp dp.length k'rp] 24])) 0).trans rfl
      have q34 : (v32.alloc (Obj.cells #[.slice Arp sp.length krp, .slice A'rp dp.length k'rp] 24)).cell? ⟨gb, 1, none⟩ = some (.slice A'b db.length k'b) := (blk_cell (blk_below BX_rb.out (below_fold v32 [Obj.cells #[.slice Arp sp.length krp, .slice A'rp dp.length k'rp] 24])) 1).trans rfl
      obtain ⟨u35, hu35⟩ : ∃ u, (v32.alloc (Obj.cells #[.slice Arp sp.length krp, .slice A'rp dp.length k'rp] 24)) = u := ⟨_, rfl⟩
      have hbu35 : Below v32.heap.size v32 u35 := by rw [← hu35]; exact below_fold v32 [Obj.cells #[.slice Arp sp.length krp, .slice A'rp dp.length k'rp] 24]
      have BX_rp : Aside0 (u35.heap[v32.heap.size]? = some (.cells #[.slice Arp sp.length krp, .slice A'rp dp.length k'rp] 24 (0, 0))) := ⟨by rw [← hu35]; exact blk_fold v32 [Obj.cells #[.slice Arp sp.length krp, .slice A'rp dp.length k'rp] 24] 0 _ rfl⟩
      have Hu35 := Aside0.mk hu35
      replace BX_a := Aside0.mk (blk_below BX_a.out hbu35)
      replace BX_ra := Aside0.mk (blk_below BX_ra.out hbu35)
      replace BX_rb := Aside0.mk (blk_below BX_rb.out hbu35)
      replace BX_rx := Aside0.mk (blk_below BX_rx.out hbu35)
      replace BX_ry := Aside0.mk (blk_below BX_ry.out hbu35)
      replace BX_rs := Aside0.mk (blk_below BX_rs.out hbu35)
      replace BX_rz := Aside0.mk (blk_below BX_rz.out hbu35)
      replace RD_a0 := Aside0.mk (RD_a0.out.below hbu35)
      replace RD_a1 := Aside0.mk (RD_a1.out.below hbu35)
      replace RD_ra0 := Aside0.mk (RD_ra0.out.below hbu35)
      replace RD_ra1 := Aside0.mk (RD_ra1.out.below hbu35)
      replace RD_rb0 := Aside0.mk (RD_rb0.out.below hbu35)
      replace RD_rb1 := Aside0.mk (RD_rb1.out.below hbu35)
      replace RD_rx0 := Aside0.mk (RD_rx0.out.below hbu35)
      replace RD_rx1 := Aside0.mk (RD_rx1.out.below hbu35)
      replace RD_ry0 := Aside0.mk (RD_ry0.out.below hbu35)
      replace RD_ry1 := Aside0.mk (RD_ry1.out.below hbu35)
      replace RD_rs0 := Aside0.mk (RD_rs0.out.below hbu35)
      replace RD_rs1 := Aside0.mk (RD_rs1.out.below hbu35)
      replace RD_rz0 := Aside0.mk (RD_rz0.out.below hbu35)
      replace RD_rz1 := Aside0.mk (RD_rz1.out.below hbu35)
      replace RD_rp0 := Aside0.mk (RD_rp0.out.below hbu35)
      replace RD_rp1 := Aside0.mk (RD_rp1.out.below hbu35)
      replace BW := Aside0.mk (below_then BW.out BW.out.size hbu35)
      clear hbu35 hu35
      go_wp2_with fail
      rw [Hu35.out]
      clear q33 q34
      clear Hu35
      refine (max_o (a : Nat) Hq.out RD_rb0.out RD_rb1.out IB.out).mono ?_
      rintro e v36 ⟨Arq, krq, A'rq, k'rq, rfl, r0, r1, hb⟩
      have RD_rq0 := Aside0.mk r0
      have RD_rq1 := Aside0.mk r1
      replace BX_a := Aside0.mk (blk_below BX_a.out hb)
      replace BX_ra := Aside0.mk (blk_below BX_ra.out hb)
      replace BX_rb := Aside0.mk (blk_below BX_rb.out hb)
      replace BX_rx := Aside0.mk (blk_below BX_rx.out hb)
      replace BX_ry := Aside0.mk (blk_below BX_ry.out hb)
      replace BX_rs := Aside0.mk (blk_below BX_rs.out hb)
      replace BX_rz := Aside0.mk (blk_below BX_rz.out hb)
      replace BX_rp := Aside0.mk (blk_below BX_rp.out hb)
      replace RD_a0 := Aside0.mk (RD_a0.out.below hb)
      replace RD_a1 := Aside0.mk (RD_a1.out.below hb)
      replace RD_ra0 := Aside0.mk (RD_ra0.out.below hb)
      replace RD_ra1 := Aside0.mk (RD_ra1.out.below hb)
      replace RD_rb0 := Aside0.mk (RD_rb0.out.below hb)
      replace RD_rb1 := Aside0.mk (RD_rb1.out.below hb)
      replace RD_rx0 := Aside0.mk (RD_rx0.out.below hb)
      replace RD_rx1 := Aside0.mk (RD_rx1.out.below hb)
      replace RD_ry0 := Aside0.mk (RD_ry0.out.below hb)
      replace RD_ry1 := Aside0.mk (RD_ry1.out.below hb)
      replace RD_rs0 := Aside0.mk (RD_rs0.out.below hb)
      replace RD_rs1 := Aside0.mk (RD_rs1.out.below hb)
      replace RD_rz0 := Aside0.mk (RD_rz0.out.below hb)
      replace RD_rz1 := Aside0.mk (RD_rz1.out.below hb)
      replace RD_rp0 := Aside0.mk (RD_rp0.out.below hb)
      replace RD_rp1 := Aside0.mk (RD_rp1.out.below hb)
      replace BW := Aside0.mk (below_then BW.out BW.out.size hb)
      clear hb r0 r1
      have q37 : (v36.alloc (Obj.cells #[.slice Arq sq.length krq, .slice A'rq dq.length k'rq] 24)).cell? ⟨w.heap.size, 0, none⟩ = some (.slice (some ad) a1.length c0) := (blk_cell (blk_below BX_a.out (below_fold v36 [Obj.cells #[.slice Arq sq.length krq, .slice A'rq dq.length k'rq] 24])) 0).trans rfl
      have q38 : (v36.alloc (Obj.cells #[.slice Arq sq.length krq, .slice A'rq dq.length k'rq] 24)).cell? ⟨w.heap.size, 1, none⟩ = some (.slice A1 a2.length c1) := (blk_cell (blk_below BX_a.out (below_fold v36 [Obj.cells #[.slice Arq sq.length krq, .slice A'rq dq.length k'rq] 24])) 1).trans rfl
      obtain ⟨u39, hu39⟩ : ∃ u, (v36.alloc (Obj.cells #[.slice Arq sq.length krq, .slice A'rq dq.length k'rq] 24)) = u := ⟨_, rfl⟩
      have hbu39 : Below v36.heap.size v36 u39 := by rw [← hu39]; exact below_fold v36 [Obj.cells #[.slice Arq sq.length krq, .slice A'rq dq.length k'rq] 24]
      have BX_rq : Aside0 (u39.heap[v36.heap.size]? = some (.cells #[.slice Arq sq.length krq, .slice A'rq dq.length k'rq] 24 (0, 0))) := ⟨by rw [← hu39]; exact blk_fold v36 [Obj.cells #[.slice Arq sq.length krq, .slice A'rq dq.length k'rq] 24] 0 _ rfl⟩
      have Hu39 := Aside0.mk hu39
      replace BX_a := Aside0.mk (blk_below BX_a.out hbu39)
      replace BX_ra := Aside0.mk (blk_below BX_ra.out hbu39)
      replace BX_rb := Aside0.mk (blk_below BX_rb.out hbu39)
      replace BX_rx := Aside0.mk (blk_below BX_rx.out hbu39)
      replace BX_ry := Aside0.mk (blk_below BX_ry.out hbu39)
      replace BX_rs := Aside0.mk (blk_below BX_rs.out hbu39)
      replace BX_rz := Aside0.mk (blk_below BX_rz.out hbu39)
      replace BX_rp := Aside0.mk (blk_below BX_rp.out hbu39)
      replace RD_a0 := Aside0.mk (RD_a0.out.below hbu39)
      replace RD_a1 := Aside0.mk (RD_a1.out.below hbu39)
      replace RD_ra0 := Aside0.mk (RD_ra0.out.below hbu39)
      replace RD_ra1 := Aside0.mk (RD_ra1.out.below hbu39)
      replace RD_rb0 := Aside0.mk (RD_rb0.out.below hbu39)
      replace RD_rb1 := Aside0.mk (RD_rb1.out.below hbu39)
      replace RD_rx0 := Aside0.mk (RD_rx0.out.below hbu39)
      replace RD_rx1 := Aside0.mk (RD_rx1.out.below hbu39)
      replace RD_ry0 := Aside0.mk (RD_ry0.out.below hbu39)
      replace RD_ry1 := Aside0.mk (RD_ry1.out.below hbu39)
      replace RD_rs0 := Aside0.mk (RD_rs0.out.below hbu39)
      replace RD_rs1 := Aside0.mk (RD_rs1.out.below hbu39)
      replace RD_rz0 := Aside0.mk (RD_rz0.out.below hbu39)
      replace RD_rz1 := Aside0.mk (RD_rz1.out.below hbu39)
      replace RD_rp0 := Aside0.mk (RD_rp0.out.below hbu39)
      replace RD_rp1 := Aside0.mk (RD_rp1.out.below hbu39)
      replace RD_rq0 := Aside0.mk (RD_rq0.out.below hbu39)
      replace RD_rq1 := Aside0.mk (RD_rq1.out.below hbu39)
      replace BW := Aside0.mk (below_then BW.out BW.out.size hbu39)
      clear hbu39 hu39
      go_wp2_with fail
      rw [Hu39.out]
      clear q37 q38
      clear Hu39
      refine (max_o (a : Nat) Hw.out RD_a0.out RD_a1.out I1.out).mono ?_
      rintro e v40 ⟨Arw, krw, A'rw, k'rw, rfl, r0, r1, hb⟩
      have RD_rw0 := Aside0.mk r0
      have RD_rw1 := Aside0.mk r1
      replace BX_a := Aside0.mk (blk_below BX_a.out hb)
      replace BX_ra := Aside0.mk (blk_below BX_ra.out hb)
      replace BX_rb := Aside0.mk (blk_below BX_rb.out hb)
      replace BX_rx := Aside0.mk (blk_below BX_rx.out hb)
      replace BX_ry := Aside0.mk (blk_below BX_ry.out hb)
      replace BX_rs := Aside0.mk (blk_below BX_rs.out hb)
      replace BX_rz := Aside0.mk (blk_below BX_rz.out hb)
      replace BX_rp := Aside0.mk (blk_below BX_rp.out hb)
      replace BX_rq := Aside0.mk (blk_below BX_rq.out hb)
      replace RD_a0 := Aside0.mk (RD_a0.out.below hb)
      replace RD_a1 := Aside0.mk (RD_a1.out.below hb)
      replace RD_ra0 := Aside0.mk (RD_ra0.out.below hb)
      replace RD_ra1 := Aside0.mk (RD_ra1.out.below hb)
      replace RD_rb0 := Aside0.mk (RD_rb0.out.below hb)
      replace RD_rb1 := Aside0.mk (RD_rb1.out.below hb)
      replace RD_rx0 := Aside0.mk (RD_rx0.out.below hb)
      replace RD_rx1 := Aside0.mk (RD_rx1.out.below hb)
      replace RD_ry0 := Aside0.mk (RD_ry0.out.below hb)
      replace RD_ry1 := Aside0.mk (RD_ry1.out.below hb)
      replace RD_rs0 := Aside0.mk (RD_rs0.out.below hb)
      replace RD_rs1 := Aside0.mk (RD_rs1.out.below hb)
      replace RD_rz0 := Aside0.mk (RD_rz0.out.below hb)
      replace RD_rz1 := Aside0.mk (RD_rz1.out.below hb)
      replace RD_rp0 := Aside0.mk (RD_rp0.out.below hb)
      replace RD_rp1 := Aside0.mk (RD_rp1.out.below hb)
      replace RD_rq0 := Aside0.mk (RD_rq0.out.below hb)
      replace RD_rq1 := Aside0.mk (RD_rq1.out.below hb)
      replace BW := Aside0.mk (below_then BW.out BW.out.size hb)
      clear hb r0 r1
      have nl1 : ((dp.length : Int) != (dw.length : Int)) = false := by have := HL.out.1; rw [bne_eq_false_iff_eq]; omega
      have nl2 : ((dq.length : Int) != (dw.length : Int)) = false := by have := HL.out.2; rw [bne_eq_false_iff_eq]; omega
      obtain ⟨z1, z2, z3, z4, z5, z6, z7, z8, z9⟩ := ZZ.out
      have q41 : (v40.alloc (Obj.cells #[.slice Arw sw.length krw, .slice A'rw dw.length k'rw] 24)).cell? ⟨v32.heap.size, 1, none⟩ = some (.slice A'rp dp.length k'rp) := (blk_cell (blk_below BX_rp.out (below_fold v40 [Obj.cells #[.slice Arw sw.length krw, .slice A'rw dw.length k'rw] 24])) 1).trans rfl
      have q42 : (v40.alloc (Obj.cells #[.slice Arw sw.length krw, .slice A'rw dw.length k'rw] 24)).cell? ⟨v36.heap.size, 1, none⟩ = some (.slice A'rq dq.length k'rq) := (blk_cell (blk_below BX_rq.out (below_fold v40 [Obj.cells #[.slice Arw sw.length krw, .slice A'rw dw.length k'rw] 24])) 1).trans rfl
      have q43 : (v40.alloc (Obj.cells #[.slice Arw sw.length krw, .slice A'rw dw.length k'rw] 24)).cell? ⟨v40.heap.size, 1, none⟩ = some (.slice A'rw dw.length k'rw) := (blk_cell (blk_fold v40 [Obj.cells #[.slice Arw sw.length krw, .slice A'rw dw.length k'rw] 24] 0 _ rfl) 1).trans rfl
      obtain ⟨u44, hu44⟩ : ∃ u, (v40.alloc (Obj.cells #[.slice Arw sw.length krw, .slice A'rw dw.length k'rw] 24)) = u := ⟨_, rfl⟩
      have hbu44 : Below v40.heap.size v40 u44 := by rw [← hu44]; exact below_fold v40 [Obj.cells #[.slice Arw sw.length krw, .slice A'rw dw.length k'rw] 24]
      have BX_rw : Aside0 (u44.heap[v40.heap.size]? = some (.cells #[.slice Arw sw.length krw, .slice A'rw dw.length k'rw] 24 (0, 0))) := ⟨by rw [← hu44]; exact blk_fold v40 [Obj.cells #[.slice Arw sw.length krw, .slice A'rw dw.length k'rw] 24] 0 _ rfl⟩
      have Hu44 := Aside0.mk hu44
      replace BX_a := Aside0.mk (blk_below BX_a.out hbu44)
      replace BX_ra := Aside0.mk (blk_below BX_ra.out hbu44)
      replace BX_rb := Aside0.mk (blk_below BX_rb.out hbu44)
      replace BX_rx := Aside0.mk (blk_below BX_rx.out hbu44)
      replace BX_ry := Aside0.mk (blk_below BX_ry.out hbu44)
      replace BX_rs := Aside0.mk (blk_below BX_rs.out hbu44)
      replace BX_rz := Aside0.mk (blk_below BX_rz.out hbu44)
      replace BX_rp := Aside0.mk (blk_below BX_rp.out hbu44)
      replace BX_rq := Aside0.mk (blk_below BX_rq.out hbu44)
      replace RD_a0 := Aside0.mk (RD_a0.out.below hbu44)
      replace RD_a1 := Aside0.mk (RD_a1.out.below hbu44)
      replace RD_ra0 := Aside0.mk (RD_ra0.out.below hbu44)
      replace RD_ra1 := Aside0.mk (RD_ra1.out.below hbu44)
      replace RD_rb0 := Aside0.mk (RD_rb0.out.below hbu44)
      replace RD_rb1 := Aside0.mk (RD_rb1.out.below hbu44)
      replace RD_rx0 := Aside0.mk (RD_rx0.out.below hbu44)
      replace RD_rx1 := Aside0.mk (RD_rx1.out.below hbu44)
      replace RD_ry0 := Aside0.mk (RD_ry0.out.below hbu44)
      replace RD_ry1 := Aside0.mk (RD_ry1.out.below hbu44)
      replace RD_rs0 := Aside0.mk (RD_rs0.out.below hbu44)
      replace RD_rs1 := Aside0.mk (RD_rs1.out.below hbu44)
      replace RD_rz0 := Aside0.mk (RD_rz0.out.below hbu44)
      replace RD_rz1 := Aside0.mk (RD_rz1.out.below hbu44)
      replace RD_rp0 := Aside0.mk (RD_rp0.out.below hbu44)
      replace RD_rp1 := Aside0.mk (RD_rp1.out.below hbu44)
      replace RD_rq0 := Aside0.mk (RD_rq0.out.below hbu44)
      replace RD_rq1 := Aside0.mk (RD_rq1.out.below hbu44)
      replace RD_rw0 := Aside0.mk (RD_rw0.out.below hbu44)
      replace RD_rw1 := Aside0.mk (RD_rw1.out.below hbu44)
      replace BW := Aside0.mk (below_then BW.out BW.out.size hbu44)
      clear hbu44 hu44
      go_wp2_with fail
      rw [Hu44.out]
      clear q41 q42 q43
      clear Hu44
      clear z1 z2 z3 z4 z5 z6 z7 z8 z9 nl1 nl2
      go_loopg [29] (dw.length) (fun g i wr => ∃ k : Nat, i = .int .i64 k ∧ Aside0 (Below u44.heap.size u44 wr) ∧ Aside0 (k ≤ dw.length ∧ g = dw.length - k))
      case atStart => exact ⟨0, rfl, ⟨Below.refl _ _⟩, ⟨by omega, by omega⟩⟩
      case round =>
        obtain ⟨i, rfl, hbx, HA⟩ := hrel
        obtain ⟨hk, hg⟩ := HA.out
        obtain ⟨v98, rfl⟩ : ∃ v98, v98 = wr := ⟨_, rfl⟩
        have hb := hbx.out
        replace BX_a := Aside0.mk (blk_below BX_a.out hb)
        replace BX_ra := Aside0.mk (blk_below BX_ra.out hb)
        replace BX_rb := Aside0.mk (blk_below BX_rb.out hb)
        replace BX_rx := Aside0.mk (blk_below BX_rx.out hb)
        replace BX_ry := Aside0.mk (blk_below BX_ry.out hb)
        replace BX_rs := Aside0.mk (blk_below BX_rs.out hb)
        replace BX_rz := Aside0.mk (blk_below BX_rz.out hb)
        replace BX_rp := Aside0.mk (blk_below BX_rp.out hb)
        replace BX_rq := Aside0.mk (blk_below BX_rq.out hb)
        replace BX_rw := Aside0.mk (blk_below BX_rw.out hb)
        replace RD_a0 := Aside0.mk (RD_a0.out.below hb)
        replace RD_a1 := Aside0.mk (RD_a1.out.below hb)
        replace RD_ra0 := Aside0.mk (RD_ra0.out.below hb)
        replace RD_ra1 := Aside0.mk (RD_ra1.out.below hb)
        replace RD_rb0 := Aside0.mk (RD_rb0.out.below hb)
        replace RD_rb1 := Aside0.mk (RD_rb1.out.below hb)
        replace RD_rx0 := Aside0.mk (RD_rx0.out.below hb)
        replace RD_rx1 := Aside0.mk (RD_rx1.out.below hb)
        replace RD_ry0 := Aside0.mk (RD_ry0.out.below hb)
        replace RD_ry1 := Aside0.mk (RD_ry1.out.below hb)
        replace RD_rs0 := Aside0.mk (RD_rs0.out.below hb)
        replace RD_rs1 := Aside0.mk (RD_rs1.out.below hb)
        replace RD_rz0 := Aside0.mk (RD_rz0.out.below hb)
        replace RD_rz1 := Aside0.mk (RD_rz1.out.below hb)
        replace RD_rp0 := Aside0.mk (RD_rp0.out.below hb)
        replace RD_rp1 := Aside0.mk (RD_rp1.out.below hb)
        replace RD_rq0 := Aside0.mk (RD_rq0.out.below hb)
        replace RD_rq1 := Aside0.mk (RD_rq1.out.below hb)
        replace RD_rw0 := Aside0.mk (RD_rw0.out.below hb)
        replace RD_rw1 := Aside0.mk (RD_rw1.out.below hb)
        replace BW := Aside0.mk (below_then BW.out BW.out.size hb)
        clear hb HA
        have lw := LW.out
        have HBX := Aside0.mk hbx.out
        by_cases hlt : i < dw.length
        case pos =>
          have cc1 : decide ((i : Int) < (dw.length : Int)) = true := by simpa using hlt
          have cc2 : decide (i < dw.length) = true := by simpa using hlt
          have hip : i < dp.length := by have := HL.out; omega
          have hiq : i < dq.length := by have := HL.out; omega
          obtain ⟨adp, ep0, hcp⟩ := Kd.at_int RD_rp1.out.c.1 (i : Int) (by omega) (by omega)
          subst ep0
          simp only [Int.toNat_natCast] at hcp
          obtain ⟨adq, eq0, hcq⟩ := Kd.at_int RD_rq1.out.c.1 (i : Int) (by omega) (by omega)
          subst eq0
          simp only [Int.toNat_natCast] at hcq
          obtain ⟨adw, ew0, hcw⟩ := Kd.at_int RD_rw1.out.c.1 (i : Int) (by omega) (by omega)
          subst ew0
          simp only [Int.toNat_natCast] at hcw
          have hmx := HM.out i hlt
          obtain ⟨tp, htp⟩ : ∃ x, rd dp (i : Nat) = x := ⟨_, rfl⟩
          rw [htp] at hmx hcp
          obtain ⟨tq, htq⟩ : ∃ x, rd dq (i : Nat) = x := ⟨_, rfl⟩
          rw [htq] at hmx hcq
          obtain ⟨tw, htw⟩ : ∃ x, rd dw (i : Nat) = x := ⟨_, rfl⟩
          rw [htw] at hmx hcw
          have hne : (tw != max tp tq) = false := by rw [bne_eq_false_iff_eq]; exact hmx
          have qq_rp1 : v98.cell? ⟨v32.heap.size, 1, none⟩ = some (.slice (some adp) dp.length k'rp) := (blk_cell BX_rp.out 1).trans rfl
          have qq_rq1 : v98.cell? ⟨v36.heap.size, 1, none⟩ = some (.slice (some adq) dq.length k'rq) := (blk_cell BX_rq.out 1).trans rfl
          have qq_rw1 : v98.cell? ⟨v40.heap.size, 1, none⟩ = some (.slice (some adw) dw.length k'rw) := (blk_cell BX_rw.out 1).trans rfl
          have hwi : IntKind.i64.wrap ((i : Int) + 1) = ((i + 1 : Nat) : Int) := by rw [wrap_in _ ⟨by omega, by omega⟩]; omega
          have G := Aside0.mk (And.intro hg hlt)
          clear htp htq htw hmx hk hg lw
          go_wp2_with fail
          go_quiet (fail)
          go_wp2_with fail
          go_roundg (dw.length - (i + 1))
          case measure => have := G.out; omega
          case rel => exact ⟨i + 1, by first | rfl | simp, ⟨pw_below_drewN HBX.out _⟩, ⟨by have := G.out; omega, rfl⟩⟩
        case neg =>
          have cc1 : decide ((i : Int) < (dw.length : Int)) = false := by simpa using hlt
          have cc2 : decide (i < dw.length) = false := by simpa using hlt
          clear hk hg hlt lw
          have qq_rw1 : v98.cell? ⟨v40.heap.size, 1, none⟩ = some (.slice A'rw dw.length k'rw) := (blk_cell BX_rw.out 1).trans rfl
          have qq_rs0 : v98.cell? ⟨v22.heap.size, 0, none⟩ = some (.slice Ars ss.length krs) := (blk_cell BX_rs.out 0).trans rfl
          have qq_rs1 : v98.cell? ⟨v22.heap.size, 1, none⟩ = some (.slice A'rs ds.length k'rs) := (blk_cell BX_rs.out 1).trans rfl
          have qq_rz0 : v98.cell? ⟨v28.heap.size, 0, none⟩ = some (.slice Arz sz.length krz) := (blk_cell BX_rz.out 0).trans rfl
          have qq_rz1 : v98.cell? ⟨v28.heap.size, 1, none⟩ = some (.slice A'rz dz.length k'rz) := (blk_cell BX_rz.out 1).trans rfl
          go_wp2_with fail
          refine (same_r (b := true) E1.out RD_rs0.out RD_rs1.out RD_rz0.out RD_rz1.out).mono ?_
          rintro e v45 ⟨rfl, hb⟩
          replace BX_a := Aside0.mk (blk_below BX_a.out hb)
          replace BX_ra := Aside0.mk (blk_below BX_ra.out hb)
          replace BX_rb := Aside0.mk (blk_below BX_rb.out hb)
          replace BX_rx := Aside0.mk (blk_below BX_rx.out hb)
          replace BX_ry := Aside0.mk (blk_below BX_ry.out hb)
          replace BX_rs := Aside0.mk (blk_below BX_rs.out hb)
          replace BX_rz := Aside0.mk (blk_below BX_rz.out hb)
          replace BX_rp := Aside0.mk (blk_below BX_rp.out hb)
          replace BX_rq := Aside0.mk (blk_below BX_rq.out hb)
          replace BX_rw := Aside0.mk (blk_below BX_rw.out hb)
          replace RD_a0 := Aside0.mk (RD_a0.out.below hb)
          replace RD_a1 := Aside0.mk (RD_a1.out.below hb)
          replace RD_ra0 := Aside0.mk (RD_ra0.out.below hb)
          replace RD_ra1 := Aside0.mk (RD_ra1.out.below hb)
          replace RD_rb0 := Aside0.mk (RD_rb0.out.below hb)
          replace RD_rb1 := Aside0.mk (RD_rb1.out.below hb)
          replace RD_rx0 := Aside0.mk (RD_rx0.out.below hb)
          replace RD_rx1 := Aside0.mk (RD_rx1.out.below hb)
          replace RD_ry0 := Aside0.mk (RD_ry0.out.below hb)
          replace RD_ry1 := Aside0.mk (RD_ry1.out.below hb)
          replace RD_rs0 := Aside0.mk (RD_rs0.out.below hb)
          replace RD_rs1 := Aside0.mk (RD_rs1.out.below hb)
          replace RD_rz0 := Aside0.mk (RD_rz0.out.below hb)
          replace RD_rz1 := Aside0.mk (RD_rz1.out.below hb)
          replace RD_rp0 := Aside0.mk (RD_rp0.out.below hb)
          replace RD_rp1 := Aside0.mk (RD_rp1.out.below hb)
          replace RD_rq0 := Aside0.mk (RD_rq0.out.below hb)
          replace RD_rq1 := Aside0.mk (RD_rq1.out.below hb)
          replace RD_rw0 := Aside0.mk (RD_rw0.out.below hb)
          replace RD_rw1 := Aside0.mk (RD_rw1.out.below hb)
          replace BW := Aside0.mk (below_then BW.out BW.out.size hb)
          clear hb
          go_wp2_with fail
          go_ret
          exact ⟨rfl, BW.out⟩
end Go.Proofs.Ytpnigmcpifilmaa.P
