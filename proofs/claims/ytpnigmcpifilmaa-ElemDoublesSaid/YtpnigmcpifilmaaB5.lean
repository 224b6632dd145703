/- The walk of ElemSpreads. -/
import Derived.Test.YtpnigmcpifilmaaA19
namespace Go.Proofs.Ytpnigmcpifilmaa.P
open Go.RowKit Go.Shelf Go.Proofs.YtpnigmcpifilmaaW.PrintWords Go.Proofs.YtpnigmcpifilmaaW.PrintLast Go.Proofs.YtpnigmcpifilmaaW.PrintMore
set_option linter.unusedVariables false
set_option linter.unusedSimpArgs false
set_option maxHeartbeats 4000000
theorem join_r {A0 : Option Addr} {c0 : Nat} {a : List Int} {A1 : Option Addr} {c1 : Nat} {b : List Int} {w : World} {S : List Int} {E : Int} (hS : (if joinOk a b then joinL a b else []) = S) (hE : (if joinOk a b then 0 else 20) = E)
    (r0 : Rd w (.slice A0 a.length c0) a) (r1 : Rd w (.slice A1 b.length c1) b) :
    Calls Try.prog 23 #[.slice A0 a.length c0, .slice A1 b.length c1] w fun e w' => ∃ A k, e = .returned (.tuple #[.slice A S.length k, .int .i64 E]) ∧ Rd w' (.slice A S.length k) S ∧ Below w.heap.size w w' := by
  subst hS hE
  refine (join_C A0 c0 a A1 c1 b w r0.c.1 r0.c.2 r1.c.1 r1.c.2).mono ?_
  rintro e w' ⟨v, rfl, ⟨A, c, rfl, h1, h2⟩, hb⟩
  exact ⟨A, c, rfl, ⟨A, c, rfl, h1, h2⟩, hb⟩
set_option maxRecDepth 100000 in
theorem spreads_bad1 (op : Int) (A0 : Option Addr) (c0 : Nat) (a1 : List Int) (A1 : Option Addr) (c1 : Nat) (a2 : List Int) (A2 : Option Addr) (c2 : Nat) (b1 : List Int) (A3 : Option Addr) (c3 : Nat) (b2 : List Int) (w : World)
    (r0 : Rd w (.slice A0 a1.length c0) a1) (r1 : Rd w (.slice A1 a2.length c1) a2) (i1 : allI a2) (r2 : Rd w (.slice A2 b1.length c2) b1) (r3 : Rd w (.slice A3 b2.length c3) b2) (i2 : allI b2) (g : fewB a1 a2 = false) :
    Calls Try.prog 7 #[.int .i64 op, .agg #[.slice A0 a1.length c0, .slice A1 a2.length c1], .agg #[.slice A2 b1.length c2, .slice A3 b2.length c3]] w fun e w' => e = .returned (.bool true) ∧ Below w.heap.size w w' := by
  have G1 := Aside0.mk g
  clear g 
  have RD_a0 := Aside0.mk r0
  have RD_a1 := Aside0.mk r1
  have RD_b0 := Aside0.mk r2
  have RD_b1 := Aside0.mk r3
  have I1 := Aside0.mk i1
  have I2 := Aside0.mk i2
  clear r0 r1 r2 r3 i1 i2
  have BW : Aside0 (Below w.heap.size w w) := ⟨Below.refl _ _⟩
  go_enter Try.func7, Try.ntmps7
  obtain ⟨u1, hu1⟩ : ∃ u, ((w.alloc (Obj.cells #[.slice A0 a1.length c0, .slice A1 a2.length c1] 24)).alloc (Obj.cells #[.slice A2 b1.length c2, .slice A3 b2.length c3] 24)) = u := ⟨_, rfl⟩
  have hbu1 : Below w.heap.size w u1 := by rw [← hu1]; exact below_fold w [Obj.cells #[.slice A0 a1.length c0, .slice A1 a2.length c1] 24, Obj.cells #[.slice A2 b1.length c2, .slice A3 b2.length c3] 24]
  have BX_a : Aside0 (u1.heap[w.heap.size]? = some (.cells #[.slice A0 a1.length c0, .slice A1 a2.length c1] 24 (0, 0))) := ⟨by rw [← hu1]; exact blk_fold w [Obj.cells #[.slice A0 a1.length c0, .slice A1 a2.length c1] 24, Obj.cells #[.slice A2 b1.length c2, .slice A3 b2.length c3] 24] 0 _ rfl⟩
  have BX_b : Aside0 (u1.heap[w.heap.size + 1]? = some (.cells #[.slice A2 b1.length c2, .slice A3 b2.length c3] 24 (0, 0))) := ⟨by rw [← hu1]; exact blk_fold w [Obj.cells #[.slice A0 a1.length c0, .slice A1 a2.length c1] 24, Obj.cells #[.slice A2 b1.length c2, .slice A3 b2.length c3] 24] 1 _ rfl⟩
  have Hu1 := Aside0.mk hu1
  replace RD_a0 := Aside0.mk (RD_a0.out.below hbu1)
  replace RD_a1 := Aside0.mk (RD_a1.out.below hbu1)
  replace RD_b0 := Aside0.mk (RD_b0.out.below hbu1)
  replace RD_b1 := Aside0.mk (RD_b1.out.below hbu1)
  replace BW := Aside0.mk (below_then BW.out BW.out.size hbu1)
  clear hbu1 hu1
  go_wp2_with fail
  rw [Hu1.out]
  clear Hu1
  refine (awake04 _).mono ?_
  rintro e v2 ⟨rfl, hb⟩
  replace BX_a := Aside0.mk (blk_below BX_a.out hb)
  replace BX_b := Aside0.mk (blk_below BX_b.out hb)
  replace RD_a0 := Aside0.mk (RD_a0.out.below hb)
  replace RD_a1 := Aside0.mk (RD_a1.out.below hb)
  replace RD_b0 := Aside0.mk (RD_b0.out.below hb)
  replace RD_b1 := Aside0.mk (RD_b1.out.below hb)
  replace BW := Aside0.mk (below_then BW.out BW.out.size hb)
  clear hb
  have q3 : v2.cell? ⟨w.heap.size, 0, none⟩ = some (.slice A0 a1.length c0) := (blk_cell BX_a.out 0).trans rfl
  have q4 : v2.cell? ⟨w.heap.size, 1, none⟩ = some (.slice A1 a2.length c1) := (blk_cell BX_a.out 1).trans rfl
  go_wp2_with fail
  clear q3 q4
  refine (few_r (b := false) (s := a1) (d := a2) G1.out).mono ?_
  rintro e v5 ⟨rfl, hb⟩
  replace BX_a := Aside0.mk (blk_below BX_a.out hb)
  replace BX_b := Aside0.mk (blk_below BX_b.out hb)
  replace RD_a0 := Aside0.mk (RD_a0.out.below hb)
  replace RD_a1 := Aside0.mk (RD_a1.out.below hb)
  replace RD_b0 := Aside0.mk (RD_b0.out.below hb)
  replace RD_b1 := Aside0.mk (RD_b1.out.below hb)
  replace BW := Aside0.mk (below_then BW.out BW.out.size hb)
  clear hb
  go_wp2_with fail
  go_ret
  exact ⟨rfl, BW.out⟩
set_option maxRecDepth 100000 in
theorem spreads_bad2 (op : Int) (A0 : Option Addr) (c0 : Nat) (a1 : List Int) (A1 : Option Addr) (c1 : Nat) (a2 : List Int) (A2 : Option Addr) (c2 : Nat) (b1 : List Int) (A3 : Option Addr) (c3 : Nat) (b2 : List Int) (w : World)
    (r0 : Rd w (.slice A0 a1.length c0) a1) (r1 : Rd w (.slice A1 a2.length c1) a2) (i1 : allI a2) (r2 : Rd w (.slice A2 b1.length c2) b1) (r3 : Rd w (.slice A3 b2.length c3) b2) (i2 : allI b2) (g1 : fewB a1 a2 = true) (g : fewB b1 b2 = false) :
    Calls Try.prog 7 #[.int .i64 op, .agg #[.slice A0 a1.length c0, .slice A1 a2.length c1], .agg #[.slice A2 b1.length c2, .slice A3 b2.length c3]] w fun e w' => e = .returned (.bool true) ∧ Below w.heap.size w w' := by
  have G1 := Aside0.mk g1
  have G2 := Aside0.mk g
  clear g g1
  have RD_a0 := Aside0.mk r0
  have RD_a1 := Aside0.mk r1
  have RD_b0 := Aside0.mk r2
  have RD_b1 := Aside0.mk r3
  have I1 := Aside0.mk i1
  have I2 := Aside0.mk i2
  clear r0 r1 r2 r3 i1 i2
  have BW : Aside0 (Below w.heap.size w w) := ⟨Below.refl _ _⟩
  go_enter Try.func7, Try.ntmps7
  obtain ⟨u1, hu1⟩ : ∃ u, ((w.alloc (Obj.cells #[.slice A0 a1.length c0, .slice A1 a2.length c1] 24)).alloc (Obj.cells #[.slice A2 b1.length c2, .slice A3 b2.length c3] 24)) = u := ⟨_, rfl⟩
  have hbu1 : Below w.heap.size w u1 := by rw [← hu1]; exact below_fold w [Obj.cells #[.slice A0 a1.length c0, .slice A1 a2.length c1] 24, Obj.cells #[.slice A2 b1.length c2, .slice A3 b2.length c3] 24]
  have BX_a : Aside0 (u1.heap[w.heap.size]? = some (.cells #[.slice A0 a1.length c0, .slice A1 a2.length c1] 24 (0, 0))) := ⟨by rw [← hu1]; exact blk_fold w [Obj.cells #[.slice A0 a1.length c0, .slice A1 a2.length c1] 24, Obj.cells #[.slice A2 b1.length c2, .slice A3 b2.length c3] 24] 0 _ rfl⟩
  have BX_b : Aside0 (u1.heap[w.heap.size + 1]? = some (.cells #[.slice A2 b1.length c2, .slice A3 b2.length c3] 24 (0, 0))) := ⟨by rw [← hu1]; exact blk_fold w [Obj.cells #[.slice A0 a1.length c0, .slice A1 a2.length c1] 24, Obj.cells #[.slice A2 b1.length c2, .slice A3 b2.length c3] 24] 1 _ rfl⟩
  have Hu1 := Aside0.mk hu1
  replace RD_a0 := Aside0.mk (RD_a0.out.below hbu1)
  replace RD_a1 := Aside0.mk (RD_a1.out.below hbu1)
  replace RD_b0 := Aside0.mk (RD_b0.out.below hbu1)
  replace RD_b1 := Aside0.mk (RD_b1.out.below hbu1)
  replace BW := Aside0.mk (below_then BW.out BW.out.size hbu1)
  clear hbu1 hu1
  go_wp2_with fail
  rw [Hu1.out]
  clear Hu1
  refine (awake04 _).mono ?_
  rintro e v2 ⟨rfl, hb⟩
  replace BX_a := Aside0.mk (blk_below BX_a.out hb)
  replace BX_b := Aside0.mk (blk_below BX_b.out hb)
  replace RD_a0 := Aside0.mk (RD_a0.out.below hb)
  replace RD_a1 := Aside0.mk (RD_a1.out.below hb)
  replace RD_b0 := Aside0.mk (RD_b0.out.below hb)
  replace RD_b1 := Aside0.mk (RD_b1.out.below hb)
  replace BW := Aside0.mk (below_then BW.out BW.out.size hb)
  clear hb
  have q3 : v2.cell? ⟨w.heap.size, 0, none⟩ = some (.slice A0 a1.length c0) := (blk_cell BX_a.out 0).trans rfl
  have q4 : v2.cell? ⟨w.heap.size, 1, none⟩ = some (.slice A1 a2.length c1) := (blk_cell BX_a.out 1).trans rfl
  go_wp2_with fail
  clear q3 q4
  refine (few_r (b := true) (s := a1) (d := a2) G1.out).mono ?_
  rintro e v5 ⟨rfl, hb⟩
  replace BX_a := Aside0.mk (blk_below BX_a.out hb)
  replace BX_b := Aside0.mk (blk_below BX_b.out hb)
  replace RD_a0 := Aside0.mk (RD_a0.out.below hb)
  replace RD_a1 := Aside0.mk (RD_a1.out.below hb)
  replace RD_b0 := Aside0.mk (RD_b0.out.below hb)
  replace RD_b1 := Aside0.mk (RD_b1.out.below hb)
  replace BW := Aside0.mk (below_then BW.out BW.out.size hb)
  clear hb
  have q6 : v5.cell? ⟨w.heap.size + 1, 0, none⟩ = some (.slice A2 b1.length c2) := (blk_cell BX_b.out 0).trans rfl
  have q7 : v5.cell? ⟨w.heap.size + 1, 1, none⟩ = some (.slice A3 b2.length c3) := (blk_cell BX_b.out 1).trans rfl
  go_wp2_with fail
  clear q6 q7
  refine (few_r (b := false) (s := b1) (d := b2) G2.out).mono ?_
  rintro e v8 ⟨rfl, hb⟩
  replace BX_a := Aside0.mk (blk_below BX_a.out hb)
  replace BX_b := Aside0.mk (blk_below BX_b.out hb)
  replace RD_a0 := Aside0.mk (RD_a0.out.below hb)
  replace RD_a1 := Aside0.mk (RD_a1.out.below hb)
  replace RD_b0 := Aside0.mk (RD_b0.out.below hb)
  replace RD_b1 := Aside0.mk (RD_b1.out.below hb)
  replace BW := Aside0.mk (below_then BW.out BW.out.size hb)
  clear hb
  go_wp2_with fail
  go_ret
  exact ⟨rfl, BW.out⟩
set_option maxRecDepth 100000 in
theorem spreads_good (op : Int) (A0 : Option Addr) (c0 : Nat) (a1 : List Int) (A1 : Option Addr) (c1 : Nat) (a2 : List Int) (A2 : Option Addr) (c2 : Nat) (b1 : List Int) (A3 : Option Addr) (c3 : Nat) (b2 : List Int) (w : World)
    (r0 : Rd w (.slice A0 a1.length c0) a1) (r1 : Rd w (.slice A1 a2.length c1) a2) (i1 : allI a2) (r2 : Rd w (.slice A2 b1.length c2) b1) (r3 : Rd w (.slice A3 b2.length c3) b2) (i2 : allI b2) (g1 : fewB a1 a2 = true) (g2 : fewB b1 b2 = true) (S : List Int) (ES : Int) (hS : (if joinOk a1 b1 then joinL a1 b1 else []) = S) (hE : (if joinOk a1 b1 then 0 else 20) = ES)
    (sx dx : List Int) (ex : Int) (hx : spreadT a1 a2 S = ((sx, dx), ex)) (sy dy : List Int) (ey : Int) (hy : spreadT b1 b2 S = ((sy, dy), ey)) (sp dp : List Int) (ep : Int) (hp : elemTwo op a1 a2 b1 b2 = ((sp, dp), ep)) (sq dq : List Int) (eq : Int) (hq : elemTwo op sx dx sy dy = ((sq, dq), eq)) (su du : List Int) (eu : Int) (hu : elemOne op a1 a2 = ((su, du), eu)) (sv dv : List Int) (ev : Int) (hv : elemOne op sx dx = ((sv, dv), ev)) (sl dl : List Int) (el : Int) (hl : spreadT su du S = ((sl, dl), el))
    (ix : allI dx) (iy : allI dy) (e1 : ES = 0 → ex = 0 → ey = 0 → ep = eq ∧ sameB sp dp sq dq = true ∧ eu = ev ∧ (eu = 0 → el = 0 ∧ sameB sv dv sl dl = true)) :
    Calls Try.prog 7 #[.int .i64 op, .agg #[.slice A0 a1.length c0, .slice A1 a2.length c1], .agg #[.slice A2 b1.length c2, .slice A3 b2.length c3]] w fun e w' => e = .returned (.bool true) ∧ Below w.heap.size w w' := by
  have G1 := Aside0.mk g1
  have G2 := Aside0.mk g2
  have Hx := Aside0.mk hx
  have Hy := Aside0.mk hy
  have Hp := Aside0.mk hp
  have Hq := Aside0.mk hq
  have Hu := Aside0.mk hu
  have Hv := Aside0.mk hv
  have Hl := Aside0.mk hl
  have HS := Aside0.mk hS
  have HE := Aside0.mk hE
  have IX := Aside0.mk ix
  have IY := Aside0.mk iy
  have E1 := Aside0.mk e1
  clear g1 g2 hS hE ix iy e1 hx hy hp hq hu hv hl
  have RD_a0 := Aside0.mk r0
  have RD_a1 := Aside0.mk r1
  have RD_b0 := Aside0.mk r2
  have RD_b1 := Aside0.mk r3
  have I1 := Aside0.mk i1
  have I2 := Aside0.mk i2
  clear r0 r1 r2 r3 i1 i2
  have BW : Aside0 (Below w.heap.size w w) := ⟨Below.refl _ _⟩
  go_enter Try.func7, Try.ntmps7
  obtain ⟨u1, hu1⟩ : ∃ u, ((w.alloc (Obj.cells #[.slice A0 a1.length c0, .slice A1 a2.length c1] 24)).alloc (Obj.cells #[.slice A2 b1.length c2, .slice A3 b2.length c3] 24)) = u := ⟨_, rfl⟩
  have hbu1 : Below w.heap.size w u1 := by rw [← hu1]; exact below_fold w [Obj.cells #[.slice A0 a1.length c0, .slice A1 a2.length c1] 24, Obj.cells #[.slice A2 b1.length c2, .slice A3 b2.length c3] 24]
  have BX_a : Aside0 (u1.heap[w.heap.size]? = some (.cells #[.slice A0 a1.length c0, .slice A1 a2.length c1] 24 (0, 0))) := ⟨by rw [← hu1]; exact blk_fold w [Obj.cells #[.slice A0 a1.length c0, .slice A1 a2.length c1] 24, Obj.cells #[.slice A2 b1.length c2, .slice A3 b2.length c3] 24] 0 _ rfl⟩
  have BX_b : Aside0 (u1.heap[w.heap.size + 1]? = some (.cells #[.slice A2 b1.length c2, .slice A3 b2.length c3] 24 (0, 0))) := ⟨by rw [← hu1]; exact blk_fold w [Obj.cells #[.slice A0 a1.length c0, .slice A1 a2.length c1] 24, Obj.cells #[.slice A2 b1.length c2, .slice A3 b2.length c3] 24] 1 _ rfl⟩
  have Hu1 := Aside0.mk hu1
  replace RD_a0 := Aside0.mk (RD_a0.out.below hbu1)
  replace RD_a1 := Aside0.mk (RD_a1.out.below hbu1)
  replace RD_b0 := Aside0.mk (RD_b0.out.below hbu1)
  replace RD_b1 := Aside0.mk (RD_b1.out.below hbu1)
  replace BW := Aside0.mk (below_then BW.out BW.out.size hbu1)
  clear hbu1 hu1
  go_wp2_with fail
  rw [Hu1.out]
  clear Hu1
  refine (awake04 _).mono ?_
  rintro e v2 ⟨rfl, hb⟩
  replace BX_a := Aside0.mk (blk_below BX_a.out hb)
  replace BX_b := Aside0.mk (blk_below BX_b.out hb)
  replace RD_a0 := Aside0.mk (RD_a0.out.below hb)
  replace RD_a1 := Aside0.mk (RD_a1.out.below hb)
  replace RD_b0 := Aside0.mk (RD_b0.out.below hb)
  replace RD_b1 := Aside0.mk (RD_b1.out.below hb)
  replace BW := Aside0.mk (below_then BW.out BW.out.size hb)
  clear hb
  have q3 : v2.cell? ⟨w.heap.size, 0, none⟩ = some (.slice A0 a1.length c0) := (blk_cell BX_a.out 0).trans rfl
  have q4 : v2.cell? ⟨w.heap.size, 1, none⟩ = some (.slice A1 a2.length c1) := (blk_cell BX_a.out 1).trans rfl
  go_wp2_with fail
  clear q3 q4
  refine (few_r (b := true) (s := a1) (d := a2) G1.out).mono ?_
  rintro e v5 ⟨rfl, hb⟩
  replace BX_a := Aside0.mk (blk_below BX_a.out hb)
  replace BX_b := Aside0.mk (blk_below BX_b.out hb)
  replace RD_a0 := Aside0.mk (RD_a0.out.below hb)
  replace RD_a1 := Aside0.mk (RD_a1.out.below hb)
  replace RD_b0 := Aside0.mk (RD_b0.out.below hb)
  replace RD_b1 := Aside0.mk (RD_b1.out.below hb)
  replace BW := Aside0.mk (below_then BW.out BW.out.size hb)
  clear hb
  have q6 : v5.cell? ⟨w.heap.size + 1, 0, none⟩ = some (.slice A2 b1.length c2) := (blk_cell BX_b.out 0).trans rfl
  have q7 : v5.cell? ⟨w.heap.size + 1, 1, none⟩ = some (.slice A3 b2.length c3) := (blk_cell BX_b.out 1).trans rfl
  go_wp2_with fail
  clear q6 q7
  refine (few_r (b := true) (s := b1) (d := b2) G2.out).mono ?_
  rintro e v8 ⟨rfl, hb⟩
  replace BX_a := Aside0.mk (blk_below BX_a.out hb)
  replace BX_b := Aside0.mk (blk_below BX_b.out hb)
  replace RD_a0 := Aside0.mk (RD_a0.out.below hb)
  replace RD_a1 := Aside0.mk (RD_a1.out.below hb)
  replace RD_b0 := Aside0.mk (RD_b0.out.below hb)
  replace RD_b1 := Aside0.mk (RD_b1.out.below hb)
  replace BW := Aside0.mk (below_then BW.out BW.out.size hb)
  clear hb
  have q9 : v8.cell? ⟨w.heap.size, 0, none⟩ = some (.slice A0 a1.length c0) := (blk_cell BX_a.out 0).trans rfl
  have q10 : v8.cell? ⟨w.heap.size + 1, 0, none⟩ = some (.slice A2 b1.length c2) := (blk_cell BX_b.out 0).trans rfl
  go_wp2_with fail
  clear q9 q10
  refine (join_r HS.out HE.out RD_a0.out RD_b0.out).mono ?_
  rintro e v11 ⟨As, ks, rfl, r0, hb⟩
  have RD_S := Aside0.mk r0
  replace BX_a := Aside0.mk (blk_below BX_a.out hb)
  replace BX_b := Aside0.mk (blk_below BX_b.out hb)
  replace RD_a0 := Aside0.mk (RD_a0.out.below hb)
  replace RD_a1 := Aside0.mk (RD_a1.out.below hb)
  replace RD_b0 := Aside0.mk (RD_b0.out.below hb)
  replace RD_b1 := Aside0.mk (RD_b1.out.below hb)
  replace BW := Aside0.mk (below_then BW.out BW.out.size hb)
  clear hb r0
  have q12 : v11.cell? ⟨w.heap.size, 0, none⟩ = some (.slice A0 a1.length c0) := (blk_cell BX_a.out 0).trans rfl
  have q13 : v11.cell? ⟨w.heap.size, 1, none⟩ = some (.slice A1 a2.length c1) := (blk_cell BX_a.out 1).trans rfl
  go_wp2_with fail
  clear q12 q13
  refine (spread_r Hx.out RD_a0.out RD_a1.out RD_S.out).mono ?_
  rintro e v14 ⟨Ax, kx, A'x, k'x, rfl, r0, r1, hb⟩
  have RD_x0 := Aside0.mk r0
  have RD_x1 := Aside0.mk r1
  replace BX_a := Aside0.mk (blk_below BX_a.out hb)
  replace BX_b := Aside0.mk (blk_below BX_b.out hb)
  replace RD_a0 := Aside0.mk (RD_a0.out.below hb)
  replace RD_a1 := Aside0.mk (RD_a1.out.below hb)
  replace RD_b0 := Aside0.mk (RD_b0.out.below hb)
  replace RD_b1 := Aside0.mk (RD_b1.out.below hb)
  replace RD_S := Aside0.mk (RD_S.out.below hb)
  replace BW := Aside0.mk (below_then BW.out BW.out.size hb)
  clear hb r0 r1
  have q15 : (v14.alloc (Obj.cells #[.slice Ax sx.length kx, .slice A'x dx.length k'x] 24)).cell? ⟨w.heap.size + 1, 0, none⟩ = some (.slice A2 b1.length c2) := (blk_cell (blk_below BX_b.out (below_fold v14 [Obj.cells #[.slice Ax sx.length kx, .slice A'x dx.length k'x] 24])) 0).trans rfl
  have q16 : (v14.alloc (Obj.cells #[.slice Ax sx.length kx, .slice A'x dx.length k'x] 24)).cell? ⟨w.heap.size + 1, 1, none⟩ = some (.slice A3 b2.length c3) := (blk_cell (blk_below BX_b.out (below_fold v14 [Obj.cells #[.slice Ax sx.length kx, .slice A'x dx.length k'x] 24])) 1).trans rfl
  obtain ⟨u17, hu17⟩ : ∃ u, (v14.alloc (Obj.cells #[.slice Ax sx.length kx, .slice A'x dx.length k'x] 24)) = u := ⟨_, rfl⟩
  have hbu17 : Below v14.heap.size v14 u17 := by rw [← hu17]; exact below_fold v14 [Obj.cells #[.slice Ax sx.length kx, .slice A'x dx.length k'x] 24]
  have BX_x : Aside0 (u17.heap[v14.heap.size]? = some (.cells #[.slice Ax sx.length kx, .slice A'x dx.length k'x] 24 (0, 0))) := ⟨by rw [← hu17]; exact blk_fold v14 [Obj.cells #[.slice Ax sx.length kx, .slice A'x dx.length k'x] 24] 0 _ rfl⟩
  have Hu17 := Aside0.mk hu17
  replace BX_a := Aside0.mk (blk_below BX_a.out hbu17)
  replace BX_b := Aside0.mk (blk_below BX_b.out hbu17)
  replace RD_a0 := Aside0.mk (RD_a0.out.below hbu17)
  replace RD_a1 := Aside0.mk (RD_a1.out.below hbu17)
  replace RD_b0 := Aside0.mk (RD_b0.out.below hbu17)
  replace RD_b1 := Aside0.mk (RD_b1.out.below hbu17)
  replace RD_S := Aside0.mk (RD_S.out.below hbu17)
  replace RD_x0 := Aside0.mk (RD_x0.out.below hbu17)
  replace RD_x1 := Aside0.mk (RD_x1.out.below hbu17)
  replace BW := Aside0.mk (below_then BW.out BW.out.size hbu17)
  clear hbu17 hu17
  go_wp2_with fail
  rw [Hu17.out]
  clear q15 q16
  clear Hu17
  refine (spread_r Hy.out RD_b0.out RD_b1.out RD_S.out).mono ?_
  rintro e v18 ⟨Ay, ky, A'y, k'y, rfl, r0, r1, hb⟩
  have RD_y0 := Aside0.mk r0
  have RD_y1 := Aside0.mk r1
  replace BX_a := Aside0.mk (blk_below BX_a.out hb)
  replace BX_b := Aside0.mk (blk_below BX_b.out hb)
  replace BX_x := Aside0.mk (blk_below BX_x.out hb)
  replace RD_a0 := Aside0.mk (RD_a0.out.below hb)
  replace RD_a1 := Aside0.mk (RD_a1.out.below hb)
  replace RD_b0 := Aside0.mk (RD_b0.out.below hb)
  replace RD_b1 := Aside0.mk (RD_b1.out.below hb)
  replace RD_S := Aside0.mk (RD_S.out.below hb)
  replace RD_x0 := Aside0.mk (RD_x0.out.below hb)
  replace RD_x1 := Aside0.mk (RD_x1.out.below hb)
  replace BW := Aside0.mk (below_then BW.out BW.out.size hb)
  clear hb r0 r1
  by_cases hES : ES = 0
  case neg =>
    have zES : (ES != 0) = true := by simpa using hES
    clear hES
    have BWN : Aside0 (Below w.heap.size w (v18.alloc (Obj.cells #[.slice Ay sy.length ky, .slice A'y dy.length k'y] 24))) := ⟨below_then BW.out BW.out.size (below_alloc (Below.refl _ _) _)⟩
    go_wp2_with fail
    go_ret
    exact ⟨rfl, BWN.out⟩
  by_cases hx : ex = 0
  case neg =>
    have zES : (ES != 0) = false := by simpa using hES
    have zx : (ex != 0) = true := by simpa using hx
    clear hx hES
    have BWN : Aside0 (Below w.heap.size w (v18.alloc (Obj.cells #[.slice Ay sy.length ky, .slice A'y dy.length k'y] 24))) := ⟨below_then BW.out BW.out.size (below_alloc (Below.refl _ _) _)⟩
    go_wp2_with fail
    go_ret
    exact ⟨rfl, BWN.out⟩
  by_cases hy : ey = 0
  case neg =>
    have zES : (ES != 0) = false := by simpa using hES
    have zx : (ex != 0) = false := by simpa using hx
    have zy : (ey != 0) = true := by simpa using hy
    clear hy hES hx
    have BWN : Aside0 (Below w.heap.size w (v18.alloc (Obj.cells #[.slice Ay sy.length ky, .slice A'y dy.length k'y] 24))) := ⟨below_then BW.out BW.out.size (below_alloc (Below.refl _ _) _)⟩
    go_wp2_with fail
    go_ret
    exact ⟨rfl, BWN.out⟩
  have zES : (ES != 0) = false := by simpa using hES
  have zx : (ex != 0) = false := by simpa using hx
  have zy : (ey != 0) = false := by simpa using hy
  have E2 := Aside0.mk (E1.out hES hx hy)
  have zp : (ep == eq) = true := by simpa using E2.out.1
  have zu : (eu == ev) = true := by simpa using E2.out.2.2.1
  clear hES hx hy
  have q19 : (v18.alloc (Obj.cells #[.slice Ay sy.length ky, .slice A'y dy.length k'y] 24)).cell? ⟨w.heap.size, 0, none⟩ = some (.slice A0 a1.length c0) := (blk_cell (blk_below BX_a.out (below_fold v18 [Obj.cells #[.slice Ay sy.length ky, .slice A'y dy.length k'y] 24])) 0).trans rfl
  have q20 : (v18.alloc (Obj.cells #[.slice Ay sy.length ky, .slice A'y dy.length k'y] 24)).cell? ⟨w.heap.size, 1, none⟩ = some (.slice A1 a2.length c1) := (blk_cell (blk_below BX_a.out (below_fold v18 [Obj.cells #[.slice Ay sy.length ky, .slice A'y dy.length k'y] 24])) 1).trans rfl
  have q21 : (v18.alloc (Obj.cells #[.slice Ay sy.length ky, .slice A'y dy.length k'y] 24)).cell? ⟨w.heap.size + 1, 0, none⟩ = some (.slice A2 b1.length c2) := (blk_cell (blk_below BX_b.out (below_fold v18 [Obj.cells #[.slice Ay sy.length ky, .slice A'y dy.length k'y] 24])) 0).trans rfl
  have q22 : (v18.alloc (Obj.cells #[.slice Ay sy.length ky, .slice A'y dy.length k'y] 24)).cell? ⟨w.heap.size + 1, 1, none⟩ = some (.slice A3 b2.length c3) := (blk_cell (blk_below BX_b.out (below_fold v18 [Obj.cells #[.slice Ay sy.length ky, .slice A'y dy.length k'y] 24])) 1).trans rfl
  obtain ⟨u23, hu23⟩ : ∃ u, (v18.alloc (Obj.cells #[.slice Ay sy.length ky, .slice A'y dy.length k'y] 24)) = u := ⟨_, rfl⟩
  have hbu23 : Below v18.heap.size v18 u23 := by rw [← hu23]; exact below_fold v18 [Obj.cells #[.slice Ay sy.length ky, .slice A'y dy.length k'y] 24]
  have BX_y : Aside0 (u23.heap[v18.heap.size]? = some (.cells #[.slice Ay sy.length ky, .slice A'y dy.length k'y] 24 (0, 0))) := ⟨by rw [← hu23]; exact blk_fold v18 [Obj.cells #[.slice Ay sy.length ky, .slice A'y dy.length k'y] 24] 0 _ rfl⟩
  have Hu23 := Aside0.mk hu23
  replace BX_a := Aside0.mk (blk_below BX_a.out hbu23)
  replace BX_b := Aside0.mk (blk_below BX_b.out hbu23)
  replace BX_x := Aside0.mk (blk_below BX_x.out hbu23)
  replace RD_a0 := Aside0.mk (RD_a0.out.below hbu23)
  replace RD_a1 := Aside0.mk (RD_a1.out.below hbu23)
  replace RD_b0 := Aside0.mk (RD_b0.out.below hbu23)
  replace RD_b1 := Aside0.mk (RD_b1.out.below hbu23)
  replace RD_S := Aside0.mk (RD_S.out.below hbu23)
  replace RD_x0 := Aside0.mk (RD_x0.out.below hbu23)
  replace RD_x1 := Aside0.mk (RD_x1.out.below hbu23)
  replace RD_y0 := Aside0.mk (RD_y0.out.below hbu23)
  replace RD_y1 := Aside0.mk (RD_y1.out.below hbu23)
  replace BW := Aside0.mk (below_then BW.out BW.out.size hbu23)
  clear hbu23 hu23
  go_wp2_with fail
  rw [Hu23.out]
  clear q19 q20 q21 q22
  clear Hu23
  refine (two_r op Hp.out RD_a0.out RD_a1.out RD_b0.out RD_b1.out I1.out I2.out).mono ?_
  rintro e v24 ⟨Ap, kp, A'p, k'p, rfl, r0, r1, hb⟩
  have RD_p0 := Aside0.mk r0
  have RD_p1 := Aside0.mk r1
  replace BX_a := Aside0.mk (blk_below BX_a.out hb)
  replace BX_b := Aside0.mk (blk_below BX_b.out hb)
  replace BX_x := Aside0.mk (blk_below BX_x.out hb)
  replace BX_y := Aside0.mk (blk_below BX_y.out hb)
  replace RD_a0 := Aside0.mk (RD_a0.out.below hb)
  replace RD_a1 := Aside0.mk (RD_a1.out.below hb)
  replace RD_b0 := Aside0.mk (RD_b0.out.below hb)
  replace RD_b1 := Aside0.mk (RD_b1.out.below hb)
  replace RD_S := Aside0.mk (RD_S.out.below hb)
  replace RD_x0 := Aside0.mk (RD_x0.out.below hb)
  replace RD_x1 := Aside0.mk (RD_x1.out.below hb)
  replace RD_y0 := Aside0.mk (RD_y0.out.below hb)
  replace RD_y1 := Aside0.mk (RD_y1.out.below hb)
  replace BW := Aside0.mk (below_then BW.out BW.out.size hb)
  clear hb r0 r1
  have q25 : (v24.alloc (Obj.cells #[.slice Ap sp.length kp, .slice A'p dp.length k'p] 24)).cell? ⟨v14.heap.size, 0, none⟩ = some (.slice Ax sx.length kx) := (blk_cell (blk_below BX_x.out (below_fold v24 [Obj.cells #[.slice Ap sp.length kp, .slice A'p dp.length k'p] 24])) 0).trans rfl
  have q26 : (v24.alloc (Obj.cells #[.slice Ap sp.length kp, .slice A'p dp.length k'p] 24)).cell? ⟨v14.heap.size, 1, none⟩ = some (.slice A'x dx.length k'x) := (blk_cell (blk_below BX_x.out (below_fold v24 [Obj.cells #[.slice Ap sp.length kp, .slice A'p dp.length k'p] 24])) 1).trans rfl
  have q27 : (v24.alloc (Obj.cells #[.slice Ap sp.length kp, .slice A'p dp.length k'p] 24)).cell? ⟨v18.heap.size, 0, none⟩ = some (.slice Ay sy.length ky) := (blk_cell (blk_below BX_y.out (below_fold v24 [Obj.cells #[.slice Ap sp.length kp, .slice A'p dp.length k'p] 24])) 0).trans rfl
  have q28 : (v24.alloc (Obj.cells #[.slice Ap sp.length kp, .slice A'p dp.length k'p] 24)).cell? ⟨v18.heap.size, 1, none⟩ = some (.slice A'y dy.length k'y) := (blk_cell (blk_below BX_y.out (below_fold v24 [Obj.cells #[.slice Ap sp.length kp, .slice A'p dp.length k'p] 24])) 1).trans rfl
  obtain ⟨u29, hu29⟩ : ∃ u, (v24.alloc (Obj.cells #[.slice Ap sp.length kp, .slice A'p dp.length k'p] 24)) = u := ⟨_, rfl⟩
  have hbu29 : Below v24.heap.size v24 u29 := by rw [← hu29]; exact below_fold v24 [Obj.cells #[.slice Ap sp.length kp, .slice A'p dp.length k'p] 24]
  have BX_p : Aside0 (u29.heap[v24.heap.size]? = some (.cells #[.slice Ap sp.length kp, .slice A'p dp.length k'p] 24 (0, 0))) := ⟨by rw [← hu29]; exact blk_fold v24 [Obj.cells #[.slice Ap sp.length kp, .slice A'p dp.length k'p] 24] 0 _ rfl⟩
  have Hu29 := Aside0.mk hu29
  replace BX_a := Aside0.mk (blk_below BX_a.out hbu29)
  replace BX_b := Aside0.mk (blk_below BX_b.out hbu29)
  replace BX_x := Aside0.mk (blk_below BX_x.out hbu29)
  replace BX_y := Aside0.mk (blk_below BX_y.out hbu29)
  replace RD_a0 := Aside0.mk (RD_a0.out.below hbu29)
  replace RD_a1 := Aside0.mk (RD_a1.out.below hbu29)
  replace RD_b0 := Aside0.mk (RD_b0.out.below hbu29)
  replace RD_b1 := Aside0.mk (RD_b1.out.below hbu29)
  replace RD_S := Aside0.mk (RD_S.out.below hbu29)
  replace RD_x0 := Aside0.mk (RD_x0.out.below hbu29)
  replace RD_x1 := Aside0.mk (RD_x1.out.below hbu29)
  replace RD_y0 := Aside0.mk (RD_y0.out.below hbu29)
  replace RD_y1 := Aside0.mk (RD_y1.out.below hbu29)
  replace RD_p0 := Aside0.mk (RD_p0.out.below hbu29)
  replace RD_p1 := Aside0.mk (RD_p1.out.below hbu29)
  replace BW := Aside0.mk (below_then BW.out BW.out.size hbu29)
  clear hbu29 hu29
  go_wp2_with fail
  rw [Hu29.out]
  clear q25 q26 q27 q28
  clear Hu29
  refine (two_r op Hq.out RD_x0.out RD_x1.out RD_y0.out RD_y1.out IX.out IY.out).mono ?_
  rintro e v30 ⟨Aq, kq, A'q, k'q, rfl, r0, r1, hb⟩
  have RD_q0 := Aside0.mk r0
  have RD_q1 := Aside0.mk r1
  replace BX_a := Aside0.mk (blk_below BX_a.out hb)
  replace BX_b := Aside0.mk (blk_below BX_b.out hb)
  replace BX_x := Aside0.mk (blk_below BX_x.out hb)
  replace BX_y := Aside0.mk (blk_below BX_y.out hb)
  replace BX_p := Aside0.mk (blk_below BX_p.out hb)
  replace RD_a0 := Aside0.mk (RD_a0.out.below hb)
  replace RD_a1 := Aside0.mk (RD_a1.out.below hb)
  replace RD_b0 := Aside0.mk (RD_b0.out.below hb)
  replace RD_b1 := Aside0.mk (RD_b1.out.below hb)
  replace RD_S := Aside0.mk (RD_S.out.below hb)
  replace RD_x0 := Aside0.mk (RD_x0.out.below hb)
  replace RD_x1 := Aside0.mk (RD_x1.out.below hb)
  replace RD_y0 := Aside0.mk (RD_y0.out.below hb)
  replace RD_y1 := Aside0.mk (RD_y1.out.below hb)
  replace RD_p0 := Aside0.mk (RD_p0.out.below hb)
  replace RD_p1 := Aside0.mk (RD_p1.out.below hb)
  replace BW := Aside0.mk (below_then BW.out BW.out.size hb)
  clear hb r0 r1
  have q31 : (v30.alloc (Obj.cells #[.slice Aq sq.length kq, .slice A'q dq.length k'q] 24)).cell? ⟨w.heap.size, 0, none⟩ = some (.slice A0 a1.length c0) := (blk_cell (blk_below BX_a.out (below_fold v30 [Obj.cells #[.slice Aq sq.length kq, .slice A'q dq.length k'q] 24])) 0).trans rfl
  have q32 : (v30.alloc (Obj.cells #[.slice Aq sq.length kq, .slice A'q dq.length k'q] 24)).cell? ⟨w.heap.size, 1, none⟩ = some (.slice A1 a2.length c1) := (blk_cell (blk_below BX_a.out (below_fold v30 [Obj.cells #[.slice Aq sq.length kq, .slice A'q dq.length k'q] 24])) 1).trans rfl
  obtain ⟨u33, hu33⟩ : ∃ u, (v30.alloc (Obj.cells #[.slice Aq sq.length kq, .slice A'q dq.length k'q] 24)) = u := ⟨_, rfl⟩
  have hbu33 : Below v30.heap.size v30 u33 := by rw [← hu33]; exact below_fold v30 [Obj.cells #[.slice Aq sq.length kq, .slice A'q dq.length k'q] 24]
  have BX_q : Aside0 (u33.heap[v30.heap.size]? = some (.cells #[.slice Aq sq.length kq, .slice A'q dq.length k'q] 24 (0, 0))) := ⟨by rw [← hu33]; exact blk_fold v30 [Obj.cells #[.slice Aq sq.length kq, .slice A'q dq.length k'q] 24] 0 _ rfl⟩
  have Hu33 := Aside0.mk hu33
  replace BX_a := Aside0.mk (blk_below BX_a.out hbu33)
  replace BX_b := Aside0.mk (blk_below BX_b.out hbu33)
  replace BX_x := Aside0.mk (blk_below BX_x.out hbu33)
  replace BX_y := Aside0.mk (blk_below BX_y.out hbu33)
  replace BX_p := Aside0.mk (blk_below BX_p.out hbu33)
  replace RD_a0 := Aside0.mk (RD_a0.out.below hbu33)
  replace RD_a1 := Aside0.mk (RD_a1.out.below hbu33)
  replace RD_b0 := Aside0.mk (RD_b0.out.below hbu33)
  replace RD_b1 := Aside0.mk (RD_b1.out.below hbu33)
  replace RD_S := Aside0.mk (RD_S.out.below hbu33)
  replace RD_x0 := Aside0.mk (RD_x0.out.below hbu33)
  replace RD_x1 := Aside0.mk (RD_x1.out.below hbu33)
  replace RD_y0 := Aside0.mk (RD_y0.out.below hbu33)
  replace RD_y1 := Aside0.mk (RD_y1.out.below hbu33)
  replace RD_p0 := Aside0.mk (RD_p0.out.below hbu33)
  replace RD_p1 := Aside0.mk (RD_p1.out.below hbu33)
  replace RD_q0 := Aside0.mk (RD_q0.out.below hbu33)
  replace RD_q1 := Aside0.mk (RD_q1.out.below hbu33)
  replace BW := Aside0.mk (below_then BW.out BW.out.size hbu33)
  clear hbu33 hu33
  go_wp2_with fail
  rw [Hu33.out]
  clear q31 q32
  clear Hu33
  refine (one_r op Hu.out RD_a0.out RD_a1.out I1.out).mono ?_
  rintro e v34 ⟨Au, ku, A'u, k'u, rfl, r0, r1, hb⟩
  have RD_u0 := Aside0.mk r0
  have RD_u1 := Aside0.mk r1
  replace BX_a := Aside0.mk (blk_below BX_a.out hb)
  replace BX_b := Aside0.mk (blk_below BX_b.out hb)
  replace BX_x := Aside0.mk (blk_below BX_x.out hb)
  replace BX_y := Aside0.mk (blk_below BX_y.out hb)
  replace BX_p := Aside0.mk (blk_below BX_p.out hb)
  replace BX_q := Aside0.mk (blk_below BX_q.out hb)
  replace RD_a0 := Aside0.mk (RD_a0.out.below hb)
  replace RD_a1 := Aside0.mk (RD_a1.out.below hb)
  replace RD_b0 := Aside0.mk (RD_b0.out.below hb)
  replace RD_b1 := Aside0.mk (RD_b1.out.below hb)
  replace RD_S := Aside0.mk (RD_S.out.below hb)
  replace RD_x0 := Aside0.mk (RD_x0.out.below hb)
  replace RD_x1 := Aside0.mk (RD_x1.out.below hb)
  replace RD_y0 := Aside0.mk (RD_y0.out.below hb)
  replace RD_y1 := Aside0.mk (RD_y1.out.below hb)
  replace RD_p0 := Aside0.mk (RD_p0.out.below hb)
  replace RD_p1 := Aside0.mk (RD_p1.out.below hb)
  replace RD_q0 := Aside0.mk (RD_q0.out.below hb)
  replace RD_q1 := Aside0.mk (RD_q1.out.below hb)
  replace BW := Aside0.mk (below_then BW.out BW.out.size hb)
  clear hb r0 r1
  have q35 : (v34.alloc (Obj.cells #[.slice Au su.length ku, .slice A'u du.length k'u] 24)).cell? ⟨v14.heap.size, 0, none⟩ = some (.slice Ax sx.length kx) := (blk_cell (blk_below BX_x.out (below_fold v34 [Obj.cells #[.slice Au su.length ku, .slice A'u du.length k'u] 24])) 0).trans rfl
  have q36 : (v34.alloc (Obj.cells #[.slice Au su.length ku, .slice A'u du.length k'u] 24)).cell? ⟨v14.heap.size, 1, none⟩ = some (.slice A'x dx.length k'x) := (blk_cell (blk_below BX_x.out (below_fold v34 [Obj.cells #[.slice Au su.length ku, .slice A'u du.length k'u] 24])) 1).trans rfl
  obtain ⟨u37, hu37⟩ : ∃ u, (v34.alloc (Obj.cells #[.slice Au su.length ku, .slice A'u du.length k'u] 24)) = u := ⟨_, rfl⟩
  have hbu37 : Below v34.heap.size v34 u37 := by rw [← hu37]; exact below_fold v34 [Obj.cells #[.slice Au su.length ku, .slice A'u du.length k'u] 24]
  have BX_u : Aside0 (u37.heap[v34.heap.size]? = some (.cells #[.slice Au su.length ku, .slice A'u du.length k'u] 24 (0, 0))) := ⟨by rw [← hu37]; exact blk_fold v34 [Obj.cells #[.slice Au su.length ku, .slice A'u du.length k'u] 24] 0 _ rfl⟩
  have Hu37 := Aside0.mk hu37
  replace BX_a := Aside0.mk (blk_below BX_a.out hbu37)
  replace BX_b := Aside0.mk (blk_below BX_b.out hbu37)
  replace BX_x := Aside0.mk (blk_below BX_x.out hbu37)
  replace BX_y := Aside0.mk (blk_below BX_y.out hbu37)
  replace BX_p := Aside0.mk (blk_below BX_p.out hbu37)
  replace BX_q := Aside0.mk (blk_below BX_q.out hbu37)
  replace RD_a0 := Aside0.mk (RD_a0.out.below hbu37)
  replace RD_a1 := Aside0.mk (RD_a1.out.below hbu37)
  replace RD_b0 := Aside0.mk (RD_b0.out.below hbu37)
  replace RD_b1 := Aside0.mk (RD_b1.out.below hbu37)
  replace RD_S := Aside0.mk (RD_S.out.below hbu37)
  replace RD_x0 := Aside0.mk (RD_x0.out.below hbu37)
  replace RD_x1 := Aside0.mk (RD_x1.out.below hbu37)
  replace RD_y0 := Aside0.mk (RD_y0.out.below hbu37)
  replace RD_y1 := Aside0.mk (RD_y1.out.below hbu37)
  replace RD_p0 := Aside0.mk (RD_p0.out.below hbu37)
  replace RD_p1 := Aside0.mk (RD_p1.out.below hbu37)
  replace RD_q0 := Aside0.mk (RD_q0.out.below hbu37)
  replace RD_q1 := Aside0.mk (RD_q1.out.below hbu37)
  replace RD_u0 := Aside0.mk (RD_u0.out.below hbu37)
  replace RD_u1 := Aside0.mk (RD_u1.out.below hbu37)
  replace BW := Aside0.mk (below_then BW.out BW.out.size hbu37)
  clear hbu37 hu37
  go_wp2_with fail
  rw [Hu37.out]
  clear q35 q36
  clear Hu37
  refine (one_r op Hv.out RD_x0.out RD_x1.out IX.out).mono ?_
  rintro e v38 ⟨Av, kv, A'v, k'v, rfl, r0, r1, hb⟩
  have RD_v0 := Aside0.mk r0
  have RD_v1 := Aside0.mk r1
  replace BX_a := Aside0.mk (blk_below BX_a.out hb)
  replace BX_b := Aside0.mk (blk_below BX_b.out hb)
  replace BX_x := Aside0.mk (blk_below BX_x.out hb)
  replace BX_y := Aside0.mk (blk_below BX_y.out hb)
  replace BX_p := Aside0.mk (blk_below BX_p.out hb)
  replace BX_q := Aside0.mk (blk_below BX_q.out hb)
  replace BX_u := Aside0.mk (blk_below BX_u.out hb)
  replace RD_a0 := Aside0.mk (RD_a0.out.below hb)
  replace RD_a1 := Aside0.mk (RD_a1.out.below hb)
  replace RD_b0 := Aside0.mk (RD_b0.out.below hb)
  replace RD_b1 := Aside0.mk (RD_b1.out.below hb)
  replace RD_S := Aside0.mk (RD_S.out.below hb)
  replace RD_x0 := Aside0.mk (RD_x0.out.below hb)
  replace RD_x1 := Aside0.mk (RD_x1.out.below hb)
  replace RD_y0 := Aside0.mk (RD_y0.out.below hb)
  replace RD_y1 := Aside0.mk (RD_y1.out.below hb)
  replace RD_p0 := Aside0.mk (RD_p0.out.below hb)
  replace RD_p1 := Aside0.mk (RD_p1.out.below hb)
  replace RD_q0 := Aside0.mk (RD_q0.out.below hb)
  replace RD_q1 := Aside0.mk (RD_q1.out.below hb)
  replace RD_u0 := Aside0.mk (RD_u0.out.below hb)
  replace RD_u1 := Aside0.mk (RD_u1.out.below hb)
  replace BW := Aside0.mk (below_then BW.out BW.out.size hb)
  clear hb r0 r1
  have q39 : (v38.alloc (Obj.cells #[.slice Av sv.length kv, .slice A'v dv.length k'v] 24)).cell? ⟨v34.heap.size, 0, none⟩ = some (.slice Au su.length ku) := (blk_cell (blk_below BX_u.out (below_fold v38 [Obj.cells #[.slice Av sv.length kv, .slice A'v dv.length k'v] 24])) 0).trans rfl
  have q40 : (v38.alloc (Obj.cells #[.slice Av sv.length kv, .slice A'v dv.length k'v] 24)).cell? ⟨v34.heap.size, 1, none⟩ = some (.slice A'u du.length k'u) := (blk_cell (blk_below BX_u.out (below_fold v38 [Obj.cells #[.slice Av sv.length kv, .slice A'v dv.length k'v] 24])) 1).trans rfl
  obtain ⟨u41, hu41⟩ : ∃ u, (v38.alloc (Obj.cells #[.slice Av sv.length kv, .slice A'v dv.length k'v] 24)) = u := ⟨_, rfl⟩
  have hbu41 : Below v38.heap.size v38 u41 := by rw [← hu41]; exact below_fold v38 [Obj.cells #[.slice Av sv.length kv, .slice A'v dv.length k'v] 24]
  have BX_v : Aside0 (u41.heap[v38.heap.size]? = some (.cells #[.slice Av sv.length kv, .slice A'v dv.length k'v] 24 (0, 0))) := ⟨by rw [← hu41]; exact blk_fold v38 [Obj.cells #[.slice Av sv.length kv, .slice A'v dv.length k'v] 24] 0 _ rfl⟩
  have Hu41 := Aside0.mk hu41
  replace BX_a := Aside0.mk (blk_below BX_a.out hbu41)
  replace BX_b := Aside0.mk (blk_below BX_b.out hbu41)
  replace BX_x := Aside0.mk (blk_below BX_x.out hbu41)
  replace BX_y := Aside0.mk (blk_below BX_y.out hbu41)
  replace BX_p := Aside0.mk (blk_below BX_p.out hbu41)
  replace BX_q := Aside0.mk (blk_below BX_q.out hbu41)
  replace BX_u := Aside0.mk (blk_below BX_u.out hbu41)
  replace RD_a0 := Aside0.mk (RD_a0.out.below hbu41)
  replace RD_a1 := Aside0.mk (RD_a1.out.below hbu41)
  replace RD_b0 := Aside0.mk (RD_b0.out.below hbu41)
  replace RD_b1 := Aside0.mk (RD_b1.out.below hbu41)
  replace RD_S := Aside0.mk (RD_S.out.below hbu41)
  replace RD_x0 := Aside0.mk (RD_x0.out.below hbu41)
  replace RD_x1 := Aside0.mk (RD_x1.out.below hbu41)
  replace RD_y0 := Aside0.mk (RD_y0.out.below hbu41)
  replace RD_y1 := Aside0.mk (RD_y1.out.below hbu41)
  replace RD_p0 := Aside0.mk (RD_p0.out.below hbu41)
  replace RD_p1 := Aside0.mk (RD_p1.out.below hbu41)
  replace RD_q0 := Aside0.mk (RD_q0.out.below hbu41)
  replace RD_q1 := Aside0.mk (RD_q1.out.below hbu41)
  replace RD_u0 := Aside0.mk (RD_u0.out.below hbu41)
  replace RD_u1 := Aside0.mk (RD_u1.out.below hbu41)
  replace RD_v0 := Aside0.mk (RD_v0.out.below hbu41)
  replace RD_v1 := Aside0.mk (RD_v1.out.below hbu41)
  replace BW := Aside0.mk (below_then BW.out BW.out.size hbu41)
  clear hbu41 hu41
  go_wp2_with fail
  rw [Hu41.out]
  clear q39 q40
  clear Hu41
  refine (spread_r Hl.out RD_u0.out RD_u1.out RD_S.out).mono ?_
  rintro e v42 ⟨Al, kl, A'l, k'l, rfl, r0, r1, hb⟩
  have RD_l0 := Aside0.mk r0
  have RD_l1 := Aside0.mk r1
  replace BX_a := Aside0.mk (blk_below BX_a.out hb)
  replace BX_b := Aside0.mk (blk_below BX_b.out hb)
  replace BX_x := Aside0.mk (blk_below BX_x.out hb)
  replace BX_y := Aside0.mk (blk_below BX_y.out hb)
  replace BX_p := Aside0.mk (blk_below BX_p.out hb)
  replace BX_q := Aside0.mk (blk_below BX_q.out hb)
  replace BX_u := Aside0.mk (blk_below BX_u.out hb)
  replace BX_v := Aside0.mk (blk_below BX_v.out hb)
  replace RD_a0 := Aside0.mk (RD_a0.out.below hb)
  replace RD_a1 := Aside0.mk (RD_a1.out.below hb)
  replace RD_b0 := Aside0.mk (RD_b0.out.below hb)
  replace RD_b1 := Aside0.mk (RD_b1.out.below hb)
  replace RD_S := Aside0.mk (RD_S.out.below hb)
  replace RD_x0 := Aside0.mk (RD_x0.out.below hb)
  replace RD_x1 := Aside0.mk (RD_x1.out.below hb)
  replace RD_y0 := Aside0.mk (RD_y0.out.below hb)
  replace RD_y1 := Aside0.mk (RD_y1.out.below hb)
  replace RD_p0 := Aside0.mk (RD_p0.out.below hb)
  replace RD_p1 := Aside0.mk (RD_p1.out.below hb)
  replace RD_q0 := Aside0.mk (RD_q0.out.below hb)
  replace RD_q1 := Aside0.mk (RD_q1.out.below hb)
  replace RD_u0 := Aside0.mk (RD_u0.out.below hb)
  replace RD_u1 := Aside0.mk (RD_u1.out.below hb)
  replace RD_v0 := Aside0.mk (RD_v0.out.below hb)
  replace RD_v1 := Aside0.mk (RD_v1.out.below hb)
  replace BW := Aside0.mk (below_then BW.out BW.out.size hb)
  clear hb r0 r1
  have q43 : (v42.alloc (Obj.cells #[.slice Al sl.length kl, .slice A'l dl.length k'l] 24)).cell? ⟨v24.heap.size, 0, none⟩ = some (.slice Ap sp.length kp) := (blk_cell (blk_below BX_p.out (below_fold v42 [Obj.cells #[.slice Al sl.length kl, .slice A'l dl.length k'l] 24])) 0).trans rfl
  have q44 : (v42.alloc (Obj.cells #[.slice Al sl.length kl, .slice A'l dl.length k'l] 24)).cell? ⟨v24.heap.size, 1, none⟩ = some (.slice A'p dp.length k'p) := (blk_cell (blk_below BX_p.out (below_fold v42 [Obj.cells #[.slice Al sl.length kl, .slice A'l dl.length k'l] 24])) 1).trans rfl
  have q45 : (v42.alloc (Obj.cells #[.slice Al sl.length kl, .slice A'l dl.length k'l] 24)).cell? ⟨v30.heap.size, 0, none⟩ = some (.slice Aq sq.length kq) := (blk_cell (blk_below BX_q.out (below_fold v42 [Obj.cells #[.slice Al sl.length kl, .slice A'l dl.length k'l] 24])) 0).trans rfl
  have q46 : (v42.alloc (Obj.cells #[.slice Al sl.length kl, .slice A'l dl.length k'l] 24)).cell? ⟨v30.heap.size, 1, none⟩ = some (.slice A'q dq.length k'q) := (blk_cell (blk_below BX_q.out (below_fold v42 [Obj.cells #[.slice Al sl.length kl, .slice A'l dl.length k'l] 24])) 1).trans rfl
  obtain ⟨u47, hu47⟩ : ∃ u, (v42.alloc (Obj.cells #[.slice Al sl.length kl, .slice A'l dl.length k'l] 24)) = u := ⟨_, rfl⟩
  have hbu47 : Below v42.heap.size v42 u47 := by rw [← hu47]; exact below_fold v42 [Obj.cells #[.slice Al sl.length kl, .slice A'l dl.length k'l] 24]
  have BX_l : Aside0 (u47.heap[v42.heap.size]? = some (.cells #[.slice Al sl.length kl, .slice A'l dl.length k'l] 24 (0, 0))) := ⟨by rw [← hu47]; exact blk_fold v42 [Obj.cells #[.slice Al sl.length kl, .slice A'l dl.length k'l] 24] 0 _ rfl⟩
  have Hu47 := Aside0.mk hu47
  replace BX_a := Aside0.mk (blk_below BX_a.out hbu47)
  replace BX_b := Aside0.mk (blk_below BX_b.out hbu47)
  replace BX_x := Aside0.mk (blk_below BX_x.out hbu47)
  replace BX_y := Aside0.mk (blk_below BX_y.out hbu47)
  replace BX_p := Aside0.mk (blk_below BX_p.out hbu47)
  replace BX_q := Aside0.mk (blk_below BX_q.out hbu47)
  replace BX_u := Aside0.mk (blk_below BX_u.out hbu47)
  replace BX_v := Aside0.mk (blk_below BX_v.out hbu47)
  replace RD_a0 := Aside0.mk (RD_a0.out.below hbu47)
  replace RD_a1 := Aside0.mk (RD_a1.out.below hbu47)
  replace RD_b0 := Aside0.mk (RD_b0.out.below hbu47)
  replace RD_b1 := Aside0.mk (RD_b1.out.below hbu47)
  replace RD_S := Aside0.mk (RD_S.out.below hbu47)
  replace RD_x0 := Aside0.mk (RD_x0.out.below hbu47)
  replace RD_x1 := Aside0.mk (RD_x1.out.below hbu47)
  replace RD_y0 := Aside0.mk (RD_y0.out.below hbu47)
  replace RD_y1 := Aside0.mk (RD_y1.out.below hbu47)
  replace RD_p0 := Aside0.mk (RD_p0.out.below hbu47)
  replace RD_p1 := Aside0.mk (RD_p1.out.below hbu47)
  replace RD_q0 := Aside0.mk (RD_q0.out.below hbu47)
  replace RD_q1 := Aside0.mk (RD_q1.out.below hbu47)
  replace RD_u0 := Aside0.mk (RD_u0.out.below hbu47)
  replace RD_u1 := Aside0.mk (RD_u1.out.below hbu47)
  replace RD_v0 := Aside0.mk (RD_v0.out.below hbu47)
  replace RD_v1 := Aside0.mk (RD_v1.out.below hbu47)
  replace RD_l0 := Aside0.mk (RD_l0.out.below hbu47)
  replace RD_l1 := Aside0.mk (RD_l1.out.below hbu47)
  replace BW := Aside0.mk (below_then BW.out BW.out.size hbu47)
  clear hbu47 hu47
  go_wp2_with fail
  rw [Hu47.out]
  clear q43 q44 q45 q46
  clear Hu47
  refine (same_r (b := true) E2.out.2.1 RD_p0.out RD_p1.out RD_q0.out RD_q1.out).mono ?_
  rintro e v48 ⟨rfl, hb⟩
  replace BX_a := Aside0.mk (blk_below BX_a.out hb)
  replace BX_b := Aside0.mk (blk_below BX_b.out hb)
  replace BX_x := Aside0.mk (blk_below BX_x.out hb)
  replace BX_y := Aside0.mk (blk_below BX_y.out hb)
  replace BX_p := Aside0.mk (blk_below BX_p.out hb)
  replace BX_q := Aside0.mk (blk_below BX_q.out hb)
  replace BX_u := Aside0.mk (blk_below BX_u.out hb)
  replace BX_v := Aside0.mk (blk_below BX_v.out hb)
  replace BX_l := Aside0.mk (blk_below BX_l.out hb)
  replace RD_a0 := Aside0.mk (RD_a0.out.below hb)
  replace RD_a1 := Aside0.mk (RD_a1.out.below hb)
  replace RD_b0 := Aside0.mk (RD_b0.out.below hb)
  replace RD_b1 := Aside0.mk (RD_b1.out.below hb)
  replace RD_S := Aside0.mk (RD_S.out.below hb)
  replace RD_x0 := Aside0.mk (RD_x0.out.below hb)
  replace RD_x1 := Aside0.mk (RD_x1.out.below hb)
  replace RD_y0 := Aside0.mk (RD_y0.out.below hb)
  replace RD_y1 := Aside0.mk (RD_y1.out.below hb)
  replace RD_p0 := Aside0.mk (RD_p0.out.below hb)
  replace RD_p1 := Aside0.mk (RD_p1.out.below hb)
  replace RD_q0 := Aside0.mk (RD_q0.out.below hb)
  replace RD_q1 := Aside0.mk (RD_q1.out.below hb)
  replace RD_u0 := Aside0.mk (RD_u0.out.below hb)
  replace RD_u1 := Aside0.mk (RD_u1.out.below hb)
  replace RD_v0 := Aside0.mk (RD_v0.out.below hb)
  replace RD_v1 := Aside0.mk (RD_v1.out.below hb)
  replace RD_l0 := Aside0.mk (RD_l0.out.below hb)
  replace RD_l1 := Aside0.mk (RD_l1.out.below hb)
  replace BW := Aside0.mk (below_then BW.out BW.out.size hb)
  clear hb
  by_cases hu : eu = 0
  case neg =>
    have zz : (eu != 0) = true := by simpa using hu
    clear hu
    go_wp2_with fail
    go_ret
    exact ⟨rfl, BW.out⟩
  have zz : (eu != 0) = false := by simpa using hu
  have E3 := Aside0.mk (E2.out.2.2.2 hu)
  have zl : (el == 0) = true := by simpa using E3.out.1
  clear hu
  have q49 : v48.cell? ⟨v38.heap.size, 0, none⟩ = some (.slice Av sv.length kv) := (blk_cell BX_v.out 0).trans rfl
  have q50 : v48.cell? ⟨v38.heap.size, 1, none⟩ = some (.slice A'v dv.length k'v) := (blk_cell BX_v.out 1).trans rfl
  have q51 : v48.cell? ⟨v42.heap.size, 0, none⟩ = some (.slice Al sl.length kl) := (blk_cell BX_l.out 0).trans rfl
  have q52 : v48.cell? ⟨v42.heap.size, 1, none⟩ = some (.slice A'l dl.length k'l) := (blk_cell BX_l.out 1).trans rfl
  go_wp2_with fail
  clear q49 q50 q51 q52
  refine (same_r (b := true) E3.out.2 RD_v0.out RD_v1.out RD_l0.out RD_l1.out).mono ?_
  rintro e v53 ⟨rfl, hb⟩
  replace BX_a := Aside0.mk (blk_below BX_a.out hb)
  replace BX_b := Aside0.mk (blk_below BX_b.out hb)
  replace BX_x := Aside0.mk (blk_below BX_x.out hb)
  replace BX_y := Aside0.mk (blk_below BX_y.out hb)
  replace BX_p := Aside0.mk (blk_below BX_p.out hb)
  replace BX_q := Aside0.mk (blk_below BX_q.out hb)
  replace BX_u := Aside0.mk (blk_below BX_u.out hb)
  replace BX_v := Aside0.mk (blk_below BX_v.out hb)
  replace BX_l := Aside0.mk (blk_below BX_l.out hb)
  replace RD_a0 := Aside0.mk (RD_a0.out.below hb)
  replace RD_a1 := Aside0.mk (RD_a1.out.below hb)
  replace RD_b0 := Aside0.mk (RD_b0.out.below hb)
  replace RD_b1 := Aside0.mk (RD_b1.out.below hb)
  replace RD_S := Aside0.mk (RD_S.out.below hb)
  replace RD_x0 := Aside0.mk (RD_x0.out.below hb)
  replace RD_x1 := Aside0.mk (RD_x1.out.below hb)
  replace RD_y0 := Aside0.mk (RD_y0.out.below hb)
  replace RD_y1 := Aside0.mk (RD_y1.out.below hb)
  replace RD_p0 := Aside0.mk (RD_p0.out.below hb)
  replace RD_p1 := Aside0.mk (RD_p1.out.below hb)
  replace RD_q0 := Aside0.mk (RD_q0.out.below hb)
  replace RD_q1 := Aside0.mk (RD_q1.out.below hb)
  replace RD_u0 := Aside0.mk (RD_u0.out.below hb)
  replace RD_u1 := Aside0.mk (RD_u1.out.below hb)
  replace RD_v0 := Aside0.mk (RD_v0.out.below hb)
  replace RD_v1 := Aside0.mk (RD_v1.out.below hb)
  replace RD_l0 := Aside0.mk (RD_l0.out.below hb)
  replace RD_l1 := Aside0.mk (RD_l1.out.below hb)
  replace BW := Aside0.mk (below_then BW.out BW.out.size hb)
  clear hb
  go_wp2_with fail
  go_ret
  exact ⟨rfl, BW.out⟩
end Go.Proofs.Ytpnigmcpifilmaa.P
