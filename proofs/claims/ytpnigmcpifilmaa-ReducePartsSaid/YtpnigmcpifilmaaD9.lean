/- fullerlaw06.awake is true. -/
import Derived.Test.YtpnigmcpifilmaaD8
namespace Go.Proofs.Ytpnigmcpifilmaa.P
open Go.RowKit Go.Shelf Go.Proofs.YtpnigmcpifilmaaW.PrintWords Go.Proofs.YtpnigmcpifilmaaW.PrintLast Go.Proofs.YtpnigmcpifilmaaW.PrintMore
set_option linter.unusedVariables false
set_option linter.unusedSimpArgs false
theorem TOpenN.topen {w : World} {S D : List Int} {E : Int} {e : Ending} {w' : World} (h : TOpenN w S D E e w') : TOpen w S D E e w' := by
  obtain ⟨A, c, A', c', rfl, h0, h1, hb⟩ := h
  exact ⟨A, c, A', c', rfl, h0.rd, h1.rd, hb⟩
theorem sum_o {A0 : Option Addr} {c0 : Nat} {s : List Int} {A1 : Option Addr} {c1 : Nat} {d : List Int} (ax : Int) {w : World} {S D : List Int} {E : Int} (h : sumR s d ax = ((S, D), E)) (r0 : Rd w (.slice A0 s.length c0) s) (r1 : Rd w (.slice A1 d.length c1) d) (i1 : allI d) :
    Calls Try.prog 25 #[.agg #[.slice A0 s.length c0, .slice A1 d.length c1], .int .i64 ax] w (TOpen w S D E) := (sum_r A0 c0 s A1 c1 d ax w h r0 r1 i1).mono fun _ _ h => h.topen
theorem max_o {A0 : Option Addr} {c0 : Nat} {s : List Int} {A1 : Option Addr} {c1 : Nat} {d : List Int} (ax : Int) {w : World} {S D : List Int} {E : Int} (h : maxR s d ax = ((S, D), E)) (r0 : Rd w (.slice A0 s.length c0) s) (r1 : Rd w (.slice A1 d.length c1) d) (i1 : allI d) :
    Calls Try.prog 29 #[.agg #[.slice A0 s.length c0, .slice A1 d.length c1], .int .i64 ax] w (TOpen w S D E) := (max_r A0 c0 s A1 c1 d ax w h r0 r1 i1).mono fun _ _ h => h.topen
theorem mean_o {A0 : Option Addr} {c0 : Nat} {s : List Int} {A1 : Option Addr} {c1 : Nat} {d : List Int} (ax : Int) {w : World} {S D : List Int} {E : Int} (h : meanR s d ax = ((S, D), E)) (r0 : Rd w (.slice A0 s.length c0) s) (r1 : Rd w (.slice A1 d.length c1) d) (i1 : allI d) :
    Calls Try.prog 27 #[.agg #[.slice A0 s.length c0, .slice A1 d.length c1], .int .i64 ax] w (TOpen w S D E) := (mean_r A0 c0 s A1 c1 d ax w h r0 r1 i1).mono fun _ _ h => h.topen
theorem first_o {A0 : Option Addr} {c0 : Nat} {s : List Int} {A1 : Option Addr} {c1 : Nat} {d : List Int} (ax : Int) {w : World} {S D : List Int} {E : Int} (h : firstR s d ax = ((S, D), E)) (r0 : Rd w (.slice A0 s.length c0) s) (r1 : Rd w (.slice A1 d.length c1) d) (i1 : allI d) :
    Calls Try.prog 31 #[.agg #[.slice A0 s.length c0, .slice A1 d.length c1], .int .i64 ax] w (TOpen w S D E) := (first_r A0 c0 s A1 c1 d ax w h r0 r1 i1).mono fun _ _ h => h.topen
theorem grow_o {A0 : Option Addr} {c0 : Nat} {s : List Int} {A1 : Option Addr} {c1 : Nat} {d : List Int} (ax sd : Int) {w : World} {S D : List Int} {E : Int} (h : growR s d ax sd = ((S, D), E)) (r0 : Rd w (.slice A0 s.length c0) s) (r1 : Rd w (.slice A1 d.length c1) d) (i1 : allI d) :
    Calls Try.prog 33 #[.agg #[.slice A0 s.length c0, .slice A1 d.length c1], .int .i64 ax, .int .i64 sd] w (TOpen w S D E) := (grow_r A0 c0 s A1 c1 d ax sd w h r0 r1 i1).mono fun _ _ h => h.topen
theorem ax1 : sumR [2, 2] [1, 5, 3, 4] 0 = (([2], [4, 9]), 0) := by decide +kernel
theorem ax2 : maxR [2, 2] [1, 5, 3, 4] 1 = (([2], [5, 4]), 0) := by decide +kernel
theorem ax3 : firstR [2, 2] [1, 5, 3, 4] 1 = (([2, 2], [0, 4294967296, 0, 4294967296]), 0) := by decide +kernel
theorem ax4 : meanR [2, 2] [1, 5, 3, 4] 0 = (([2], [2, 4]), 0) := by decide +kernel
theorem ax5 : growR [2] [5, 4] 0 2 = (([2, 2], [5, 4, 5, 4]), 0) := by decide +kernel
theorem ax6 : sumR [2, 2] [1, 5, 3, 4] 2 = (([], []), 20) := by decide +kernel
theorem ax7 : sumR [] [] 0 = (([], []), 30) := by decide +kernel
set_option maxRecDepth 100000 in
set_option maxHeartbeats 4000000 in
theorem awake06 (w : World) : Calls Try.prog 24 #[] w fun e w' => e = .returned (.bool true) ∧ Below w.heap.size w w' := by
  obtain ⟨s1, d1, e1, H1⟩ : ∃ s d e, Aside0 (sumR [2, 2] [1, 5, 3, 4] 0 = ((s, d), e) ∧ s = [2] ∧ d = [4, 9] ∧ e = 0) := ⟨_, _, _, ⟨ax1, rfl, rfl, rfl⟩⟩
  have z1 : (e1 == 0) = true := by rw [H1.out.2.2.2]; rfl
  obtain ⟨s2, d2, e2, H2⟩ : ∃ s d e, Aside0 (maxR [2, 2] [1, 5, 3, 4] 1 = ((s, d), e) ∧ s = [2] ∧ d = [5, 4] ∧ e = 0) := ⟨_, _, _, ⟨ax2, rfl, rfl, rfl⟩⟩
  have z2 : (e2 == 0) = true := by rw [H2.out.2.2.2]; rfl
  obtain ⟨s3, d3, e3, H3⟩ : ∃ s d e, Aside0 (firstR [2, 2] [1, 5, 3, 4] 1 = ((s, d), e) ∧ s = [2, 2] ∧ d = [0, 4294967296, 0, 4294967296] ∧ e = 0) := ⟨_, _, _, ⟨ax3, rfl, rfl, rfl⟩⟩
  have z3 : (e3 == 0) = true := by rw [H3.out.2.2.2]; rfl
  obtain ⟨s4, d4, e4, H4⟩ : ∃ s d e, Aside0 (meanR [2, 2] [1, 5, 3, 4] 0 = ((s, d), e) ∧ s = [2] ∧ d = [2, 4] ∧ e = 0) := ⟨_, _, _, ⟨ax4, rfl, rfl, rfl⟩⟩
  have z4 : (e4 == 0) = true := by rw [H4.out.2.2.2]; rfl
  obtain ⟨s5, d5, e5, H5⟩ : ∃ s d e, Aside0 (growR s2 d2 0 2 = ((s, d), e) ∧ s = [2, 2] ∧ d = [5, 4, 5, 4] ∧ e = 0) := ⟨_, _, _, ⟨by rw [H2.out.2.1, H2.out.2.2.1]; exact ax5, rfl, rfl, rfl⟩⟩
  have z5 : (e5 == 0) = true := by rw [H5.out.2.2.2]; rfl
  obtain ⟨s6, d6, e6, H6⟩ : ∃ s d e, Aside0 (sumR [2, 2] [1, 5, 3, 4] 2 = ((s, d), e) ∧ s = [] ∧ d = [] ∧ e = 20) := ⟨_, _, _, ⟨ax6, rfl, rfl, rfl⟩⟩
  have z6 : (e6 == 20) = true := by rw [H6.out.2.2.2]; rfl
  obtain ⟨s7, d7, e7, H7⟩ : ∃ s d e, Aside0 (sumR [] [] 0 = ((s, d), e) ∧ s = [] ∧ d = [] ∧ e = 30) := ⟨_, _, _, ⟨ax7, rfl, rfl, rfl⟩⟩
  have z7 : (e7 == 30) = true := by rw [H7.out.2.2.2]; rfl
  have BW : Aside0 (Below w.heap.size w w) := ⟨Below.refl _ _⟩
  go_enter Try.func24, Try.ntmps24
  have q1 : (((w.alloc (Obj.cells #[.int .i64 2, .int .i64 2] 3)).alloc (Obj.cells #[.int .i64 1, .int .i64 5, .int .i64 3, .int .i64 4] 3)).alloc (Obj.cells #[.slice (some ⟨w.heap.size, 0, none⟩) 2 2, .slice (some ⟨w.heap.size + 1, 0, none⟩) 4 4] 24)).cell? ⟨w.heap.size + 2, 0, none⟩ = some (.slice (some ⟨w.heap.size, 0, none⟩) 2 2) := (blk_cell (blk_fold w [Obj.cells #[.int .i64 2, .int .i64 2] 3, Obj.cells #[.int .i64 1, .int .i64 5, .int .i64 3, .int .i64 4] 3, Obj.cells #[.slice (some ⟨w.heap.size, 0, none⟩) 2 2, .slice (some ⟨w.heap.size + 1, 0, none⟩) 4 4] 24] 2 _ rfl) 0).trans rfl
  have q2 : (((w.alloc (Obj.cells #[.int .i64 2, .int .i64 2] 3)).alloc (Obj.cells #[.int .i64 1, .int .i64 5, .int .i64 3, .int .i64 4] 3)).alloc (Obj.cells #[.slice (some ⟨w.heap.size, 0, none⟩) 2 2, .slice (some ⟨w.heap.size + 1, 0, none⟩) 4 4] 24)).cell? ⟨w.heap.size + 2, 1, none⟩ = some (.slice (some ⟨w.heap.size + 1, 0, none⟩) 4 4) := (blk_cell (blk_fold w [Obj.cells #[.int .i64 2, .int .i64 2] 3, Obj.cells #[.int .i64 1, .int .i64 5, .int .i64 3, .int .i64 4] 3, Obj.cells #[.slice (some ⟨w.heap.size, 0, none⟩) 2 2, .slice (some ⟨w.heap.size + 1, 0, none⟩) 4 4] 24] 2 _ rfl) 1).trans rfl
  obtain ⟨u3, hu3⟩ : ∃ u, (((w.alloc (Obj.cells #[.int .i64 2, .int .i64 2] 3)).alloc (Obj.cells #[.int .i64 1, .int .i64 5, .int .i64 3, .int .i64 4] 3)).alloc (Obj.cells #[.slice (some ⟨w.heap.size, 0, none⟩) 2 2, .slice (some ⟨w.heap.size + 1, 0, none⟩) 4 4] 24)) = u := ⟨_, rfl⟩
  have hbu3 : Below w.heap.size w u3 := by rw [← hu3]; exact below_fold w [Obj.cells #[.int .i64 2, .int .i64 2] 3, Obj.cells #[.int .i64 1, .int .i64 5, .int .i64 3, .int .i64 4] 3, Obj.cells #[.slice (some ⟨w.heap.size, 0, none⟩) 2 2, .slice (some ⟨w.heap.size + 1, 0, none⟩) 4 4] 24]
  have BX_a : Aside0 (u3.heap[w.heap.size + 2]? = some (.cells #[.slice (some ⟨w.heap.size, 0, none⟩) 2 2, .slice (some ⟨w.heap.size + 1, 0, none⟩) 4 4] 24 (0, 0))) := ⟨by rw [← hu3]; exact blk_fold w [Obj.cells #[.int .i64 2, .int .i64 2] 3, Obj.cells #[.int .i64 1, .int .i64 5, .int .i64 3, .int .i64 4] 3, Obj.cells #[.slice (some ⟨w.heap.size, 0, none⟩) 2 2, .slice (some ⟨w.heap.size + 1, 0, none⟩) 4 4] 24] 2 _ rfl⟩
  have RD_a0 : Aside0 (Rd u3 (.slice (some ⟨w.heap.size, 0, none⟩) 2 2) [2, 2]) := ⟨by rw [← hu3]; exact Rd.of_blk (xs := [2, 2]) (blk_fold w [Obj.cells #[.int .i64 2, .int .i64 2] 3, Obj.cells #[.int .i64 1, .int .i64 5, .int .i64 3, .int .i64 4] 3, Obj.cells #[.slice (some ⟨w.heap.size, 0, none⟩) 2 2, .slice (some ⟨w.heap.size + 1, 0, none⟩) 4 4] 24] 0 _ rfl) (by decide)⟩
  have RD_a1 : Aside0 (Rd u3 (.slice (some ⟨w.heap.size + 1, 0, none⟩) 4 4) [1, 5, 3, 4]) := ⟨by rw [← hu3]; exact Rd.of_blk (xs := [1, 5, 3, 4]) (blk_fold w [Obj.cells #[.int .i64 2, .int .i64 2] 3, Obj.cells #[.int .i64 1, .int .i64 5, .int .i64 3, .int .i64 4] 3, Obj.cells #[.slice (some ⟨w.heap.size, 0, none⟩) 2 2, .slice (some ⟨w.heap.size + 1, 0, none⟩) 4 4] 24] 1 _ rfl) (by decide)⟩
  have Hu3 := Aside0.mk hu3
  replace BW := Aside0.mk (below_then BW.out BW.out.size hbu3)
  clear hbu3 hu3
  go_wp2_with fail
  rw [Hu3.out]
  clear q1 q2
  clear Hu3
  refine (sum_o (s := [2, 2]) (d := [1, 5, 3, 4]) 0 H1.out.1 RD_a0.out RD_a1.out (allI_small (by decide))).mono ?_
  rintro e v4 ⟨Ax1, kx1, A'x1, k'x1, rfl, r0, r1, hb⟩
  have RD_x10 := Aside0.mk r0
  have RD_x11 := Aside0.mk r1
  replace BX_a := Aside0.mk (blk_below BX_a.out hb)
  replace RD_a0 := Aside0.mk (RD_a0.out.below hb)
  replace RD_a1 := Aside0.mk (RD_a1.out.below hb)
  replace BW := Aside0.mk (below_then BW.out BW.out.size hb)
  clear hb r0 r1
  have q5 : (v4.alloc (Obj.cells #[.slice Ax1 s1.length kx1, .slice A'x1 d1.length k'x1] 24)).cell? ⟨w.heap.size + 2, 0, none⟩ = some (.slice (some ⟨w.heap.size, 0, none⟩) 2 2) := (blk_cell (blk_below BX_a.out (below_fold v4 [Obj.cells #[.slice Ax1 s1.length kx1, .slice A'x1 d1.length k'x1] 24])) 0).trans rfl
  have q6 : (v4.alloc (Obj.cells #[.slice Ax1 s1.length kx1, .slice A'x1 d1.length k'x1] 24)).cell? ⟨w.heap.size + 2, 1, none⟩ = some (.slice (some ⟨w.heap.size + 1, 0, none⟩) 4 4) := (blk_cell (blk_below BX_a.out (below_fold v4 [Obj.cells #[.slice Ax1 s1.length kx1, .slice A'x1 d1.length k'x1] 24])) 1).trans rfl
  obtain ⟨u7, hu7⟩ : ∃ u, (v4.alloc (Obj.cells #[.slice Ax1 s1.length kx1, .slice A'x1 d1.length k'x1] 24)) = u := ⟨_, rfl⟩
  have hbu7 : Below v4.heap.size v4 u7 := by rw [← hu7]; exact below_fold v4 [Obj.cells #[.slice Ax1 s1.length kx1, .slice A'x1 d1.length k'x1] 24]
  have BX_a_ : Aside0 (u7.heap[v4.heap.size]? = some (.cells #[.slice Ax1 s1.length kx1, .slice A'x1 d1.length k'x1] 24 (0, 0))) := ⟨by rw [← hu7]; exact blk_fold v4 [Obj.cells #[.slice Ax1 s1.length kx1, .slice A'x1 d1.length k'x1] 24] 0 _ rfl⟩
  have Hu7 := Aside0.mk hu7
  replace BX_a := Aside0.mk (blk_below BX_a.out hbu7)
  replace RD_a0 := Aside0.mk (RD_a0.out.below hbu7)
  replace RD_a1 := Aside0.mk (RD_a1.out.below hbu7)
  replace RD_x10 := Aside0.mk (RD_x10.out.below hbu7)
  replace RD_x11 := Aside0.mk (RD_x11.out.below hbu7)
  replace BW := Aside0.mk (below_then BW.out BW.out.size hbu7)
  clear hbu7 hu7
  go_wp2_with fail
  rw [Hu7.out]
  clear q5 q6
  clear Hu7
  refine (max_o (s := [2, 2]) (d := [1, 5, 3, 4]) 1 H2.out.1 RD_a0.out RD_a1.out (allI_small (by decide))).mono ?_
  rintro e v8 ⟨Ax2, kx2, A'x2, k'x2, rfl, r0, r1, hb⟩
  have RD_x20 := Aside0.mk r0
  have RD_x21 := Aside0.mk r1
  replace BX_a := Aside0.mk (blk_below BX_a.out hb)
  replace BX_a_ := Aside0.mk (blk_below BX_a_.out hb)
  replace RD_a0 := Aside0.mk (RD_a0.out.below hb)
  replace RD_a1 := Aside0.mk (RD_a1.out.below hb)
  replace RD_x10 := Aside0.mk (RD_x10.out.below hb)
  replace RD_x11 := Aside0.mk (RD_x11.out.below hb)
  replace BW := Aside0.mk (below_then BW.out BW.out.size hb)
  clear hb r0 r1
  have q9 : (v8.alloc (Obj.cells #[.slice Ax2 s2.length kx2, .slice A'x2 d2.length k'x2] 24)).cell? ⟨w.heap.size + 2, 0, none⟩ = some (.slice (some ⟨w.heap.size, 0, none⟩) 2 2) := (blk_cell (blk_below BX_a.out (below_fold v8 [Obj.cells #[.slice Ax2 s2.length kx2, .slice A'x2 d2.length k'x2] 24])) 0).trans rfl
  have q10 : (v8.alloc (Obj.cells #[.slice Ax2 s2.length kx2, .slice A'x2 d2.length k'x2] 24)).cell? ⟨w.heap.size + 2, 1, none⟩ = some (.slice (some ⟨w.heap.size + 1, 0, none⟩) 4 4) := (blk_cell (blk_below BX_a.out (below_fold v8 [Obj.cells #[.slice Ax2 s2.length kx2, .slice A'x2 d2.length k'x2] 24])) 1).trans rfl
  obtain ⟨u11, hu11⟩ : ∃ u, (v8.alloc (Obj.cells #[.slice Ax2 s2.length kx2, .slice A'x2 d2.length k'x2] 24)) = u := ⟨_, rfl⟩
  have hbu11 : Below v8.heap.size v8 u11 := by rw [← hu11]; exact below_fold v8 [Obj.cells #[.slice Ax2 s2.length kx2, .slice A'x2 d2.length k'x2] 24]
  have BX_b_ : Aside0 (u11.heap[v8.heap.size]? = some (.cells #[.slice Ax2 s2.length kx2, .slice A'x2 d2.length k'x2] 24 (0, 0))) := ⟨by rw [← hu11]; exact blk_fold v8 [Obj.cells #[.slice Ax2 s2.length kx2, .slice A'x2 d2.length k'x2] 24] 0 _ rfl⟩
  have Hu11 := Aside0.mk hu11
  replace BX_a := Aside0.mk (blk_below BX_a.out hbu11)
  replace BX_a_ := Aside0.mk (blk_below BX_a_.out hbu11)
  replace RD_a0 := Aside0.mk (RD_a0.out.below hbu11)
  replace RD_a1 := Aside0.mk (RD_a1.out.below hbu11)
  replace RD_x10 := Aside0.mk (RD_x10.out.below hbu11)
  replace RD_x11 := Aside0.mk (RD_x11.out.below hbu11)
  replace RD_x20 := Aside0.mk (RD_x20.out.below hbu11)
  replace RD_x21 := Aside0.mk (RD_x21.out.below hbu11)
  replace BW := Aside0.mk (below_then BW.out BW.out.size hbu11)
  clear hbu11 hu11
  go_wp2_with fail
  rw [Hu11.out]
  clear q9 q10
  clear Hu11
  refine (first_o (s := [2, 2]) (d := [1, 5, 3, 4]) 1 H3.out.1 RD_a0.out RD_a1.out (allI_small (by decide))).mono ?_
  rintro e v12 ⟨Ax3, kx3, A'x3, k'x3, rfl, r0, r1, hb⟩
  have RD_x30 := Aside0.mk r0
  have RD_x31 := Aside0.mk r1
  replace BX_a := Aside0.mk (blk_below BX_a.out hb)
  replace BX_a_ := Aside0.mk (blk_below BX_a_.out hb)
  replace BX_b_ := Aside0.mk (blk_below BX_b_.out hb)
  replace RD_a0 := Aside0.mk (RD_a0.out.below hb)
  replace RD_a1 := Aside0.mk (RD_a1.out.below hb)
  replace RD_x10 := Aside0.mk (RD_x10.out.below hb)
  replace RD_x11 := Aside0.mk (RD_x11.out.below hb)
  replace RD_x20 := Aside0.mk (RD_x20.out.below hb)
  replace RD_x21 := Aside0.mk (RD_x21.out.below hb)
  replace BW := Aside0.mk (below_then BW.out BW.out.size hb)
  clear hb r0 r1
  have q13 : (v12.alloc (Obj.cells #[.slice Ax3 s3.length kx3, .slice A'x3 d3.length k'x3] 24)).cell? ⟨w.heap.size + 2, 0, none⟩ = some (.slice (some ⟨w.heap.size, 0, none⟩) 2 2) := (blk_cell (blk_below BX_a.out (below_fold v12 [Obj.cells #[.slice Ax3 s3.length kx3, .slice A'x3 d3.length k'x3] 24])) 0).trans rfl
  have q14 : (v12.alloc (Obj.cells #[.slice Ax3 s3.length kx3, .slice A'x3 d3.length k'x3] 24)).cell? ⟨w.heap.size + 2, 1, none⟩ = some (.slice (some ⟨w.heap.size + 1, 0, none⟩) 4 4) := (blk_cell (blk_below BX_a.out (below_fold v12 [Obj.cells #[.slice Ax3 s3.length kx3, .slice A'x3 d3.length k'x3] 24])) 1).trans rfl
  obtain ⟨u15, hu15⟩ : ∃ u, (v12.alloc (Obj.cells #[.slice Ax3 s3.length kx3, .slice A'x3 d3.length k'x3] 24)) = u := ⟨_, rfl⟩
  have hbu15 : Below v12.heap.size v12 u15 := by rw [← hu15]; exact below_fold v12 [Obj.cells #[.slice Ax3 s3.length kx3, .slice A'x3 d3.length k'x3] 24]
  have BX_c_ : Aside0 (u15.heap[v12.heap.size]? = some (.cells #[.slice Ax3 s3.length kx3, .slice A'x3 d3.length k'x3] 24 (0, 0))) := ⟨by rw [← hu15]; exact blk_fold v12 [Obj.cells #[.slice Ax3 s3.length kx3, .slice A'x3 d3.length k'x3] 24] 0 _ rfl⟩
  have Hu15 := Aside0.mk hu15
  replace BX_a := Aside0.mk (blk_below BX_a.out hbu15)
  replace BX_a_ := Aside0.mk (blk_below BX_a_.out hbu15)
  replace BX_b_ := Aside0.mk (blk_below BX_b_.out hbu15)
  replace RD_a0 := Aside0.mk (RD_a0.out.below hbu15)
  replace RD_a1 := Aside0.mk (RD_a1.out.below hbu15)
  replace RD_x10 := Aside0.mk (RD_x10.out.below hbu15)
  replace RD_x11 := Aside0.mk (RD_x11.out.below hbu15)
  replace RD_x20 := Aside0.mk (RD_x20.out.below hbu15)
  replace RD_x21 := Aside0.mk (RD_x21.out.below hbu15)
  replace RD_x30 := Aside0.mk (RD_x30.out.below hbu15)
  replace RD_x31 := Aside0.mk (RD_x31.out.below hbu15)
  replace BW := Aside0.mk (below_then BW.out BW.out.size hbu15)
  clear hbu15 hu15
  go_wp2_with fail
  rw [Hu15.out]
  clear q13 q14
  clear Hu15
  refine (mean_o (s := [2, 2]) (d := [1, 5, 3, 4]) 0 H4.out.1 RD_a0.out RD_a1.out (allI_small (by decide))).mono ?_
  rintro e v16 ⟨Ax4, kx4, A'x4, k'x4, rfl, r0, r1, hb⟩
  have RD_x40 := Aside0.mk r0
  have RD_x41 := Aside0.mk r1
  replace BX_a := Aside0.mk (blk_below BX_a.out hb)
  replace BX_a_ := Aside0.mk (blk_below BX_a_.out hb)
  replace BX_b_ := Aside0.mk (blk_below BX_b_.out hb)
  replace BX_c_ := Aside0.mk (blk_below BX_c_.out hb)
  replace RD_a0 := Aside0.mk (RD_a0.out.below hb)
  replace RD_a1 := Aside0.mk (RD_a1.out.below hb)
  replace RD_x10 := Aside0.mk (RD_x10.out.below hb)
  replace RD_x11 := Aside0.mk (RD_x11.out.below hb)
  replace RD_x20 := Aside0.mk (RD_x20.out.below hb)
  replace RD_x21 := Aside0.mk (RD_x21.out.below hb)
  replace RD_x30 := Aside0.mk (RD_x30.out.below hb)
  replace RD_x31 := Aside0.mk (RD_x31.out.below hb)
  replace BW := Aside0.mk (below_then BW.out BW.out.size hb)
  clear hb r0 r1
  have q17 : (v16.alloc (Obj.cells #[.slice Ax4 s4.length kx4, .slice A'x4 d4.length k'x4] 24)).cell? ⟨v8.heap.size, 0, none⟩ = some (.slice Ax2 s2.length kx2) := (blk_cell (blk_below BX_b_.out (below_fold v16 [Obj.cells #[.slice Ax4 s4.length kx4, .slice A'x4 d4.length k'x4] 24])) 0).trans rfl
  have q18 : (v16.alloc (Obj.cells #[.slice Ax4 s4.length kx4, .slice A'x4 d4.length k'x4] 24)).cell? ⟨v8.heap.size, 1, none⟩ = some (.slice A'x2 d2.length k'x2) := (blk_cell (blk_below BX_b_.out (below_fold v16 [Obj.cells #[.slice Ax4 s4.length kx4, .slice A'x4 d4.length k'x4] 24])) 1).trans rfl
  obtain ⟨u19, hu19⟩ : ∃ u, (v16.alloc (Obj.cells #[.slice Ax4 s4.length kx4, .slice A'x4 d4.length k'x4] 24)) = u := ⟨_, rfl⟩
  have hbu19 : Below v16.heap.size v16 u19 := by rw [← hu19]; exact below_fold v16 [Obj.cells #[.slice Ax4 s4.length kx4, .slice A'x4 d4.length k'x4] 24]
  have BX_d_ : Aside0 (u19.heap[v16.heap.size]? = some (.cells #[.slice Ax4 s4.length kx4, .slice A'x4 d4.length k'x4] 24 (0, 0))) := ⟨by rw [← hu19]; exact blk_fold v16 [Obj.cells #[.slice Ax4 s4.length kx4, .slice A'x4 d4.length k'x4] 24] 0 _ rfl⟩
  have Hu19 := Aside0.mk hu19
  replace BX_a := Aside0.mk (blk_below BX_a.out hbu19)
  replace BX_a_ := Aside0.mk (blk_below BX_a_.out hbu19)
  replace BX_b_ := Aside0.mk (blk_below BX_b_.out hbu19)
  replace BX_c_ := Aside0.mk (blk_below BX_c_.out hbu19)
  replace RD_a0 := Aside0.mk (RD_a0.out.below hbu19)
  replace RD_a1 := Aside0.mk (RD_a1.out.below hbu19)
  replace RD_x10 := Aside0.mk (RD_x10.out.below hbu19)
  replace RD_x11 := Aside0.mk (RD_x11.out.below hbu19)
  replace RD_x20 := Aside0.mk (RD_x20.out.below hbu19)
  replace RD_x21 := Aside0.mk (RD_x21.out.below hbu19)
  replace RD_x30 := Aside0.mk (RD_x30.out.below hbu19)
  replace RD_x31 := Aside0.mk (RD_x31.out.below hbu19)
  replace RD_x40 := Aside0.mk (RD_x40.out.below hbu19)
  replace RD_x41 := Aside0.mk (RD_x41.out.below hbu19)
  replace BW := Aside0.mk (below_then BW.out BW.out.size hbu19)
  clear hbu19 hu19
  go_wp2_with fail
  rw [Hu19.out]
  clear q17 q18
  clear Hu19
  refine (grow_o 0 2 H5.out.1 RD_x20.out RD_x21.out (by rw [H2.out.2.2.1]; exact allI_small (by decide))).mono ?_
  rintro e v20 ⟨Ax5, kx5, A'x5, k'x5, rfl, r0, r1, hb⟩
  have RD_x50 := Aside0.mk r0
  have RD_x51 := Aside0.mk r1
  replace BX_a := Aside0.mk (blk_below BX_a.out hb)
  replace BX_a_ := Aside0.mk (blk_below BX_a_.out hb)
  replace BX_b_ := Aside0.mk (blk_below BX_b_.out hb)
  replace BX_c_ := Aside0.mk (blk_below BX_c_.out hb)
  replace BX_d_ := Aside0.mk (blk_below BX_d_.out hb)
  replace RD_a0 := Aside0.mk (RD_a0.out.below hb)
  replace RD_a1 := Aside0.mk (RD_a1.out.below hb)
  replace RD_x10 := Aside0.mk (RD_x10.out.below hb)
  replace RD_x11 := Aside0.mk (RD_x11.out.below hb)
  replace RD_x20 := Aside0.mk (RD_x20.out.below hb)
  replace RD_x21 := Aside0.mk (RD_x21.out.below hb)
  replace RD_x30 := Aside0.mk (RD_x30.out.below hb)
  replace RD_x31 := Aside0.mk (RD_x31.out.below hb)
  replace RD_x40 := Aside0.mk (RD_x40.out.below hb)
  replace RD_x41 := Aside0.mk (RD_x41.out.below hb)
  replace BW := Aside0.mk (below_then BW.out BW.out.size hb)
  clear hb r0 r1
  have q21 : (v20.alloc (Obj.cells #[.slice Ax5 s5.length kx5, .slice A'x5 d5.length k'x5] 24)).cell? ⟨w.heap.size + 2, 0, none⟩ = some (.slice (some ⟨w.heap.size, 0, none⟩) 2 2) := (blk_cell (blk_below BX_a.out (below_fold v20 [Obj.cells #[.slice Ax5 s5.length kx5, .slice A'x5 d5.length k'x5] 24])) 0).trans rfl
  have q22 : (v20.alloc (Obj.cells #[.slice Ax5 s5.length kx5, .slice A'x5 d5.length k'x5] 24)).cell? ⟨w.heap.size + 2, 1, none⟩ = some (.slice (some ⟨w.heap.size + 1, 0, none⟩) 4 4) := (blk_cell (blk_below BX_a.out (below_fold v20 [Obj.cells #[.slice Ax5 s5.length kx5, .slice A'x5 d5.length k'x5] 24])) 1).trans rfl
  obtain ⟨u23, hu23⟩ : ∃ u, (v20.alloc (Obj.cells #[.slice Ax5 s5.length kx5, .slice A'x5 d5.length k'x5] 24)) = u := ⟨_, rfl⟩
  have hbu23 : Below v20.heap.size v20 u23 := by rw [← hu23]; exact below_fold v20 [Obj.cells #[.slice Ax5 s5.length kx5, .slice A'x5 d5.length k'x5] 24]
  have BX_w_ : Aside0 (u23.heap[v20.heap.size]? = some (.cells #[.slice Ax5 s5.length kx5, .slice A'x5 d5.length k'x5] 24 (0, 0))) := ⟨by rw [← hu23]; exact blk_fold v20 [Obj.cells #[.slice Ax5 s5.length kx5, .slice A'x5 d5.length k'x5] 24] 0 _ rfl⟩
  have Hu23 := Aside0.mk hu23
  replace BX_a := Aside0.mk (blk_below BX_a.out hbu23)
  replace BX_a_ := Aside0.mk (blk_below BX_a_.out hbu23)
  replace BX_b_ := Aside0.mk (blk_below BX_b_.out hbu23)
  replace BX_c_ := Aside0.mk (blk_below BX_c_.out hbu23)
  replace BX_d_ := Aside0.mk (blk_below BX_d_.out hbu23)
  replace RD_a0 := Aside0.mk (RD_a0.out.below hbu23)
  replace RD_a1 := Aside0.mk (RD_a1.out.below hbu23)
  replace RD_x10 := Aside0.mk (RD_x10.out.below hbu23)
  replace RD_x11 := Aside0.mk (RD_x11.out.below hbu23)
  replace RD_x20 := Aside0.mk (RD_x20.out.below hbu23)
  replace RD_x21 := Aside0.mk (RD_x21.out.below hbu23)
  replace RD_x30 := Aside0.mk (RD_x30.out.below hbu23)
  replace RD_x31 := Aside0.mk (RD_x31.out.below hbu23)
  replace RD_x40 := Aside0.mk (RD_x40.out.below hbu23)
  replace RD_x41 := Aside0.mk (RD_x41.out.below hbu23)
  replace RD_x50 := Aside0.mk (RD_x50.out.below hbu23)
  replace RD_x51 := Aside0.mk (RD_x51.out.below hbu23)
  replace BW := Aside0.mk (below_then BW.out BW.out.size hbu23)
  clear hbu23 hu23
  go_wp2_with fail
  rw [Hu23.out]
  clear q21 q22
  clear Hu23
  refine (sum_o (s := [2, 2]) (d := [1, 5, 3, 4]) 2 H6.out.1 RD_a0.out RD_a1.out (allI_small (by decide))).mono ?_
  rintro e v24 ⟨Ax6, kx6, A'x6, k'x6, rfl, r0, r1, hb⟩
  have RD_x60 := Aside0.mk r0
  have RD_x61 := Aside0.mk r1
  replace BX_a := Aside0.mk (blk_below BX_a.out hb)
  replace BX_a_ := Aside0.mk (blk_below BX_a_.out hb)
  replace BX_b_ := Aside0.mk (blk_below BX_b_.out hb)
  replace BX_c_ := Aside0.mk (blk_below BX_c_.out hb)
  replace BX_d_ := Aside0.mk (blk_below BX_d_.out hb)
  replace BX_w_ := Aside0.mk (blk_below BX_w_.out hb)
  replace RD_a0 := Aside0.mk (RD_a0.out.below hb)
  replace RD_a1 := Aside0.mk (RD_a1.out.below hb)
  replace RD_x10 := Aside0.mk (RD_x10.out.below hb)
  replace RD_x11 := Aside0.mk (RD_x11.out.below hb)
  replace RD_x20 := Aside0.mk (RD_x20.out.below hb)
  replace RD_x21 := Aside0.mk (RD_x21.out.below hb)
  replace RD_x30 := Aside0.mk (RD_x30.out.below hb)
  replace RD_x31 := Aside0.mk (RD_x31.out.below hb)
  replace RD_x40 := Aside0.mk (RD_x40.out.below hb)
  replace RD_x41 := Aside0.mk (RD_x41.out.below hb)
  replace RD_x50 := Aside0.mk (RD_x50.out.below hb)
  replace RD_x51 := Aside0.mk (RD_x51.out.below hb)
  replace BW := Aside0.mk (below_then BW.out BW.out.size hb)
  clear hb r0 r1
  obtain ⟨u25, hu25⟩ : ∃ u, (v24.alloc (Obj.cells #[.slice Ax6 s6.length kx6, .slice A'x6 d6.length k'x6] 24)) = u := ⟨_, rfl⟩
  have hbu25 : Below v24.heap.size v24 u25 := by rw [← hu25]; exact below_fold v24 [Obj.cells #[.slice Ax6 s6.length kx6, .slice A'x6 d6.length k'x6] 24]
  have BX_j_ : Aside0 (u25.heap[v24.heap.size]? = some (.cells #[.slice Ax6 s6.length kx6, .slice A'x6 d6.length k'x6] 24 (0, 0))) := ⟨by rw [← hu25]; exact blk_fold v24 [Obj.cells #[.slice Ax6 s6.length kx6, .slice A'x6 d6.length k'x6] 24] 0 _ rfl⟩
  have Hu25 := Aside0.mk hu25
  replace BX_a := Aside0.mk (blk_below BX_a.out hbu25)
  replace BX_a_ := Aside0.mk (blk_below BX_a_.out hbu25)
  replace BX_b_ := Aside0.mk (blk_below BX_b_.out hbu25)
  replace BX_c_ := Aside0.mk (blk_below BX_c_.out hbu25)
  replace BX_d_ := Aside0.mk (blk_below BX_d_.out hbu25)
  replace BX_w_ := Aside0.mk (blk_below BX_w_.out hbu25)
  replace RD_a0 := Aside0.mk (RD_a0.out.below hbu25)
  replace RD_a1 := Aside0.mk (RD_a1.out.below hbu25)
  replace RD_x10 := Aside0.mk (RD_x10.out.below hbu25)
  replace RD_x11 := Aside0.mk (RD_x11.out.below hbu25)
  replace RD_x20 := Aside0.mk (RD_x20.out.below hbu25)
  replace RD_x21 := Aside0.mk (RD_x21.out.below hbu25)
  replace RD_x30 := Aside0.mk (RD_x30.out.below hbu25)
  replace RD_x31 := Aside0.mk (RD_x31.out.below hbu25)
  replace RD_x40 := Aside0.mk (RD_x40.out.below hbu25)
  replace RD_x41 := Aside0.mk (RD_x41.out.below hbu25)
  replace RD_x50 := Aside0.mk (RD_x50.out.below hbu25)
  replace RD_x51 := Aside0.mk (RD_x51.out.below hbu25)
  replace RD_x60 := Aside0.mk (RD_x60.out.below hbu25)
  replace RD_x61 := Aside0.mk (RD_x61.out.below hbu25)
  replace BW := Aside0.mk (below_then BW.out BW.out.size hbu25)
  clear hbu25 hu25
  go_wp2_with fail
  rw [Hu25.out]
  clear Hu25
  refine (sum_o (s := []) (d := []) 0 H7.out.1 (Rd.nil _) (Rd.nil _) nil_allI).mono ?_
  rintro e v26 ⟨Ax7, kx7, A'x7, k'x7, rfl, r0, r1, hb⟩
  have RD_x70 := Aside0.mk r0
  have RD_x71 := Aside0.mk r1
  replace BX_a := Aside0.mk (blk_below BX_a.out hb)
  replace BX_a_ := Aside0.mk (blk_below BX_a_.out hb)
  replace BX_b_ := Aside0.mk (blk_below BX_b_.out hb)
  replace BX_c_ := Aside0.mk (blk_below BX_c_.out hb)
  replace BX_d_ := Aside0.mk (blk_below BX_d_.out hb)
  replace BX_w_ := Aside0.mk (blk_below BX_w_.out hb)
  replace BX_j_ := Aside0.mk (blk_below BX_j_.out hb)
  replace RD_a0 := Aside0.mk (RD_a0.out.below hb)
  replace RD_a1 := Aside0.mk (RD_a1.out.below hb)
  replace RD_x10 := Aside0.mk (RD_x10.out.below hb)
  replace RD_x11 := Aside0.mk (RD_x11.out.below hb)
  replace RD_x20 := Aside0.mk (RD_x20.out.below hb)
  replace RD_x21 := Aside0.mk (RD_x21.out.below hb)
  replace RD_x30 := Aside0.mk (RD_x30.out.below hb)
  replace RD_x31 := Aside0.mk (RD_x31.out.below hb)
  replace RD_x40 := Aside0.mk (RD_x40.out.below hb)
  replace RD_x41 := Aside0.mk (RD_x41.out.below hb)
  replace RD_x50 := Aside0.mk (RD_x50.out.below hb)
  replace RD_x51 := Aside0.mk (RD_x51.out.below hb)
  replace RD_x60 := Aside0.mk (RD_x60.out.below hb)
  replace RD_x61 := Aside0.mk (RD_x61.out.below hb)
  replace BW := Aside0.mk (below_then BW.out BW.out.size hb)
  clear hb r0 r1
  have q27 : (v26.alloc (Obj.cells #[.slice Ax7 s7.length kx7, .slice A'x7 d7.length k'x7] 24)).cell? ⟨v4.heap.size, 1, none⟩ = some (.slice A'x1 d1.length k'x1) := (blk_cell (blk_below BX_a_.out (below_fold v26 [Obj.cells #[.slice Ax7 s7.length kx7, .slice A'x7 d7.length k'x7] 24])) 1).trans rfl
  obtain ⟨u28, hu28⟩ : ∃ u, ((v26.alloc (Obj.cells #[.slice Ax7 s7.length kx7, .slice A'x7 d7.length k'x7] 24)).alloc (Obj.cells #[.int .i64 4, .int .i64 9] 3)) = u := ⟨_, rfl⟩
  have hbu28 : Below v26.heap.size v26 u28 := by rw [← hu28]; exact below_fold v26 [Obj.cells #[.slice Ax7 s7.length kx7, .slice A'x7 d7.length k'x7] 24, Obj.cells #[.int .i64 4, .int .i64 9] 3]
  have BX_k_ : Aside0 (u28.heap[v26.heap.size]? = some (.cells #[.slice Ax7 s7.length kx7, .slice A'x7 d7.length k'x7] 24 (0, 0))) := ⟨by rw [← hu28]; exact blk_fold v26 [Obj.cells #[.slice Ax7 s7.length kx7, .slice A'x7 d7.length k'x7] 24, Obj.cells #[.int .i64 4, .int .i64 9] 3] 0 _ rfl⟩
  have RD_l1 : Aside0 (Rd u28 (.slice (some ⟨v26.heap.size + 1, 0, none⟩) 2 2) [4, 9]) := ⟨by rw [← hu28]; exact Rd.of_blk (xs := [4, 9]) (blk_fold v26 [Obj.cells #[.slice Ax7 s7.length kx7, .slice A'x7 d7.length k'x7] 24, Obj.cells #[.int .i64 4, .int .i64 9] 3] 1 _ rfl) (by decide)⟩
  have Hu28 := Aside0.mk hu28
  replace BX_a := Aside0.mk (blk_below BX_a.out hbu28)
  replace BX_a_ := Aside0.mk (blk_below BX_a_.out hbu28)
  replace BX_b_ := Aside0.mk (blk_below BX_b_.out hbu28)
  replace BX_c_ := Aside0.mk (blk_below BX_c_.out hbu28)
  replace BX_d_ := Aside0.mk (blk_below BX_d_.out hbu28)
  replace BX_w_ := Aside0.mk (blk_below BX_w_.out hbu28)
  replace BX_j_ := Aside0.mk (blk_below BX_j_.out hbu28)
  replace RD_a0 := Aside0.mk (RD_a0.out.below hbu28)
  replace RD_a1 := Aside0.mk (RD_a1.out.below hbu28)
  replace RD_x10 := Aside0.mk (RD_x10.out.below hbu28)
  replace RD_x11 := Aside0.mk (RD_x11.out.below hbu28)
  replace RD_x20 := Aside0.mk (RD_x20.out.below hbu28)
  replace RD_x21 := Aside0.mk (RD_x21.out.below hbu28)
  replace RD_x30 := Aside0.mk (RD_x30.out.below hbu28)
  replace RD_x31 := Aside0.mk (RD_x31.out.below hbu28)
  replace RD_x40 := Aside0.mk (RD_x40.out.below hbu28)
  replace RD_x41 := Aside0.mk (RD_x41.out.below hbu28)
  replace RD_x50 := Aside0.mk (RD_x50.out.below hbu28)
  replace RD_x51 := Aside0.mk (RD_x51.out.below hbu28)
  replace RD_x60 := Aside0.mk (RD_x60.out.below hbu28)
  replace RD_x61 := Aside0.mk (RD_x61.out.below hbu28)
  replace RD_x70 := Aside0.mk (RD_x70.out.below hbu28)
  replace RD_x71 := Aside0.mk (RD_x71.out.below hbu28)
  replace BW := Aside0.mk (below_then BW.out BW.out.size hbu28)
  clear hbu28 hu28
  go_wp2_with fail
  rw [Hu28.out]
  clear q27
  clear Hu28
  refine (same2_r (b := [4, 9]) (by rw [H1.out.2.2.1] <;> rfl) RD_x11.out RD_l1.out).mono ?_
  rintro e v29 ⟨rfl, hb⟩
  replace BX_a := Aside0.mk (blk_below BX_a.out hb)
  replace BX_a_ := Aside0.mk (blk_below BX_a_.out hb)
  replace BX_b_ := Aside0.mk (blk_below BX_b_.out hb)
  replace BX_c_ := Aside0.mk (blk_below BX_c_.out hb)
  replace BX_d_ := Aside0.mk (blk_below BX_d_.out hb)
  replace BX_w_ := Aside0.mk (blk_below BX_w_.out hb)
  replace BX_j_ := Aside0.mk (blk_below BX_j_.out hb)
  replace BX_k_ := Aside0.mk (blk_below BX_k_.out hb)
  replace RD_a0 := Aside0.mk (RD_a0.out.below hb)
  replace RD_a1 := Aside0.mk (RD_a1.out.below hb)
  replace RD_x10 := Aside0.mk (RD_x10.out.below hb)
  replace RD_x11 := Aside0.mk (RD_x11.out.below hb)
  replace RD_x20 := Aside0.mk (RD_x20.out.below hb)
  replace RD_x21 := Aside0.mk (RD_x21.out.below hb)
  replace RD_x30 := Aside0.mk (RD_x30.out.below hb)
  replace RD_x31 := Aside0.mk (RD_x31.out.below hb)
  replace RD_x40 := Aside0.mk (RD_x40.out.below hb)
  replace RD_x41 := Aside0.mk (RD_x41.out.below hb)
  replace RD_x50 := Aside0.mk (RD_x50.out.below hb)
  replace RD_x51 := Aside0.mk (RD_x51.out.below hb)
  replace RD_x60 := Aside0.mk (RD_x60.out.below hb)
  replace RD_x61 := Aside0.mk (RD_x61.out.below hb)
  replace RD_x70 := Aside0.mk (RD_x70.out.below hb)
  replace RD_x71 := Aside0.mk (RD_x71.out.below hb)
  replace RD_l1 := Aside0.mk (RD_l1.out.below hb)
  replace BW := Aside0.mk (below_then BW.out BW.out.size hb)
  clear hb
  have q30 : v29.cell? ⟨v8.heap.size, 1, none⟩ = some (.slice A'x2 d2.length k'x2) := (blk_cell BX_b_.out 1).trans rfl
  obtain ⟨u31, hu31⟩ : ∃ u, (v29.alloc (Obj.cells #[.int .i64 5, .int .i64 4] 3)) = u := ⟨_, rfl⟩
  have hbu31 : Below v29.heap.size v29 u31 := by rw [← hu31]; exact below_fold v29 [Obj.cells #[.int .i64 5, .int .i64 4] 3]
  have RD_l2 : Aside0 (Rd u31 (.slice (some ⟨v29.heap.size, 0, none⟩) 2 2) [5, 4]) := ⟨by rw [← hu31]; exact Rd.of_blk (xs := [5, 4]) (blk_fold v29 [Obj.cells #[.int .i64 5, .int .i64 4] 3] 0 _ rfl) (by decide)⟩
  have Hu31 := Aside0.mk hu31
  replace BX_a := Aside0.mk (blk_below BX_a.out hbu31)
  replace BX_a_ := Aside0.mk (blk_below BX_a_.out hbu31)
  replace BX_b_ := Aside0.mk (blk_below BX_b_.out hbu31)
  replace BX_c_ := Aside0.mk (blk_below BX_c_.out hbu31)
  replace BX_d_ := Aside0.mk (blk_below BX_d_.out hbu31)
  replace BX_w_ := Aside0.mk (blk_below BX_w_.out hbu31)
  replace BX_j_ := Aside0.mk (blk_below BX_j_.out hbu31)
  replace BX_k_ := Aside0.mk (blk_below BX_k_.out hbu31)
  replace RD_a0 := Aside0.mk (RD_a0.out.below hbu31)
  replace RD_a1 := Aside0.mk (RD_a1.out.below hbu31)
  replace RD_x10 := Aside0.mk (RD_x10.out.below hbu31)
  replace RD_x11 := Aside0.mk (RD_x11.out.below hbu31)
  replace RD_x20 := Aside0.mk (RD_x20.out.below hbu31)
  replace RD_x21 := Aside0.mk (RD_x21.out.below hbu31)
  replace RD_x30 := Aside0.mk (RD_x30.out.below hbu31)
  replace RD_x31 := Aside0.mk (RD_x31.out.below hbu31)
  replace RD_x40 := Aside0.mk (RD_x40.out.below hbu31)
  replace RD_x41 := Aside0.mk (RD_x41.out.below hbu31)
  replace RD_x50 := Aside0.mk (RD_x50.out.below hbu31)
  replace RD_x51 := Aside0.mk (RD_x51.out.below hbu31)
  replace RD_x60 := Aside0.mk (RD_x60.out.below hbu31)
  replace RD_x61 := Aside0.mk (RD_x61.out.below hbu31)
  replace RD_x70 := Aside0.mk (RD_x70.out.below hbu31)
  replace RD_x71 := Aside0.mk (RD_x71.out.below hbu31)
  replace RD_l1 := Aside0.mk (RD_l1.out.below hbu31)
  replace BW := Aside0.mk (below_then BW.out BW.out.size hbu31)
  clear hbu31 hu31
  go_wp2_with fail
  rw [Hu31.out]
  clear q30
  clear Hu31
  refine (same2_r (b := [5, 4]) (by rw [H2.out.2.2.1] <;> rfl) RD_x21.out RD_l2.out).mono ?_
  rintro e v32 ⟨rfl, hb⟩
  replace BX_a := Aside0.mk (blk_below BX_a.out hb)
  replace BX_a_ := Aside0.mk (blk_below BX_a_.out hb)
  replace BX_b_ := Aside0.mk (blk_below BX_b_.out hb)
  replace BX_c_ := Aside0.mk (blk_below BX_c_.out hb)
  replace BX_d_ := Aside0.mk (blk_below BX_d_.out hb)
  replace BX_w_ := Aside0.mk (blk_below BX_w_.out hb)
  replace BX_j_ := Aside0.mk (blk_below BX_j_.out hb)
  replace BX_k_ := Aside0.mk (blk_below BX_k_.out hb)
  replace RD_a0 := Aside0.mk (RD_a0.out.below hb)
  replace RD_a1 := Aside0.mk (RD_a1.out.below hb)
  replace RD_x10 := Aside0.mk (RD_x10.out.below hb)
  replace RD_x11 := Aside0.mk (RD_x11.out.below hb)
  replace RD_x20 := Aside0.mk (RD_x20.out.below hb)
  replace RD_x21 := Aside0.mk (RD_x21.out.below hb)
  replace RD_x30 := Aside0.mk (RD_x30.out.below hb)
  replace RD_x31 := Aside0.mk (RD_x31.out.below hb)
  replace RD_x40 := Aside0.mk (RD_x40.out.below hb)
  replace RD_x41 := Aside0.mk (RD_x41.out.below hb)
  replace RD_x50 := Aside0.mk (RD_x50.out.below hb)
  replace RD_x51 := Aside0.mk (RD_x51.out.below hb)
  replace RD_x60 := Aside0.mk (RD_x60.out.below hb)
  replace RD_x61 := Aside0.mk (RD_x61.out.below hb)
  replace RD_x70 := Aside0.mk (RD_x70.out.below hb)
  replace RD_x71 := Aside0.mk (RD_x71.out.below hb)
  replace RD_l1 := Aside0.mk (RD_l1.out.below hb)
  replace RD_l2 := Aside0.mk (RD_l2.out.below hb)
  replace BW := Aside0.mk (below_then BW.out BW.out.size hb)
  clear hb
  have q33 : v32.cell? ⟨v12.heap.size, 1, none⟩ = some (.slice A'x3 d3.length k'x3) := (blk_cell BX_c_.out 1).trans rfl
  obtain ⟨u34, hu34⟩ : ∃ u, (v32.alloc (Obj.cells #[.int .i64 0, .int .i64 4294967296, .int .i64 0, .int .i64 4294967296] 3)) = u := ⟨_, rfl⟩
  have hbu34 : Below v32.heap.size v32 u34 := by rw [← hu34]; exact below_fold v32 [Obj.cells #[.int .i64 0, .int .i64 4294967296, .int .i64 0, .int .i64 4294967296] 3]
  have RD_l3 : Aside0 (Rd u34 (.slice (some ⟨v32.heap.size, 0, none⟩) 4 4) [0, 4294967296, 0, 4294967296]) := ⟨by rw [← hu34]; exact Rd.of_blk (xs := [0, 4294967296, 0, 4294967296]) (blk_fold v32 [Obj.cells #[.int .i64 0, .int .i64 4294967296, .int .i64 0, .int .i64 4294967296] 3] 0 _ rfl) (by decide)⟩
  have Hu34 := Aside0.mk hu34
  replace BX_a := Aside0.mk (blk_below BX_a.out hbu34)
  replace BX_a_ := Aside0.mk (blk_below BX_a_.out hbu34)
  replace BX_b_ := Aside0.mk (blk_below BX_b_.out hbu34)
  replace BX_c_ := Aside0.mk (blk_below BX_c_.out hbu34)
  replace BX_d_ := Aside0.mk (blk_below BX_d_.out hbu34)
  replace BX_w_ := Aside0.mk (blk_below BX_w_.out hbu34)
  replace BX_j_ := Aside0.mk (blk_below BX_j_.out hbu34)
  replace BX_k_ := Aside0.mk (blk_below BX_k_.out hbu34)
  replace RD_a0 := Aside0.mk (RD_a0.out.below hbu34)
  replace RD_a1 := Aside0.mk (RD_a1.out.below hbu34)
  replace RD_x10 := Aside0.mk (RD_x10.out.below hbu34)
  replace RD_x11 := Aside0.mk (RD_x11.out.below hbu34)
  replace RD_x20 := Aside0.mk (RD_x20.out.below hbu34)
  replace RD_x21 := Aside0.mk (RD_x21.out.below hbu34)
  replace RD_x30 := Aside0.mk (RD_x30.out.below hbu34)
  replace RD_x31 := Aside0.mk (RD_x31.out.below hbu34)
  replace RD_x40 := Aside0.mk (RD_x40.out.below hbu34)
  replace RD_x41 := Aside0.mk (RD_x41.out.below hbu34)
  replace RD_x50 := Aside0.mk (RD_x50.out.below hbu34)
  replace RD_x51 := Aside0.mk (RD_x51.out.below hbu34)
  replace RD_x60 := Aside0.mk (RD_x60.out.below hbu34)
  replace RD_x61 := Aside0.mk (RD_x61.out.below hbu34)
  replace RD_x70 := Aside0.mk (RD_x70.out.below hbu34)
  replace RD_x71 := Aside0.mk (RD_x71.out.below hbu34)
  replace RD_l1 := Aside0.mk (RD_l1.out.below hbu34)
  replace RD_l2 := Aside0.mk (RD_l2.out.below hbu34)
  replace BW := Aside0.mk (below_then BW.out BW.out.size hbu34)
  clear hbu34 hu34
  go_wp2_with fail
  rw [Hu34.out]
  clear q33
  clear Hu34
  refine (same2_r (b := [0, 4294967296, 0, 4294967296]) (by rw [H3.out.2.2.1] <;> rfl) RD_x31.out RD_l3.out).mono ?_
  rintro e v35 ⟨rfl, hb⟩
  replace BX_a := Aside0.mk (blk_below BX_a.out hb)
  replace BX_a_ := Aside0.mk (blk_below BX_a_.out hb)
  replace BX_b_ := Aside0.mk (blk_below BX_b_.out hb)
  replace BX_c_ := Aside0.mk (blk_below BX_c_.out hb)
  replace BX_d_ := Aside0.mk (blk_below BX_d_.out hb)
  replace BX_w_ := Aside0.mk (blk_below BX_w_.out hb)
  replace BX_j_ := Aside0.mk (blk_below BX_j_.out hb)
  replace BX_k_ := Aside0.mk (blk_below BX_k_.out hb)
  replace RD_a0 := Aside0.mk (RD_a0.out.below hb)
  replace RD_a1 := Aside0.mk (RD_a1.out.below hb)
  replace RD_x10 := Aside0.mk (RD_x10.out.below hb)
  replace RD_x11 := Aside0.mk (RD_x11.out.below hb)
  replace RD_x20 := Aside0.mk (RD_x20.out.below hb)
  replace RD_x21 := Aside0.mk (RD_x21.out.below hb)
  replace RD_x30 := Aside0.mk (RD_x30.out.below hb)
  replace RD_x31 := Aside0.mk (RD_x31.out.below hb)
  replace RD_x40 := Aside0.mk (RD_x40.out.below hb)
  replace RD_x41 := Aside0.mk (RD_x41.out.below hb)
  replace RD_x50 := Aside0.mk (RD_x50.out.below hb)
  replace RD_x51 := Aside0.mk (RD_x51.out.below hb)
  replace RD_x60 := Aside0.mk (RD_x60.out.below hb)
  replace RD_x61 := Aside0.mk (RD_x61.out.below hb)
  replace RD_x70 := Aside0.mk (RD_x70.out.below hb)
  replace RD_x71 := Aside0.mk (RD_x71.out.below hb)
  replace RD_l1 := Aside0.mk (RD_l1.out.below hb)
  replace RD_l2 := Aside0.mk (RD_l2.out.below hb)
  replace RD_l3 := Aside0.mk (RD_l3.out.below hb)
  replace BW := Aside0.mk (below_then BW.out BW.out.size hb)
  clear hb
  have q36 : v35.cell? ⟨v16.heap.size, 1, none⟩ = some (.slice A'x4 d4.length k'x4) := (blk_cell BX_d_.out 1).trans rfl
  obtain ⟨u37, hu37⟩ : ∃ u, (v35.alloc (Obj.cells #[.int .i64 2, .int .i64 4] 3)) = u := ⟨_, rfl⟩
  have hbu37 : Below v35.heap.size v35 u37 := by rw [← hu37]; exact below_fold v35 [Obj.cells #[.int .i64 2, .int .i64 4] 3]
  have RD_l4 : Aside0 (Rd u37 (.slice (some ⟨v35.heap.size, 0, none⟩) 2 2) [2, 4]) := ⟨by rw [← hu37]; exact Rd.of_blk (xs := [2, 4]) (blk_fold v35 [Obj.cells #[.int .i64 2, .int .i64 4] 3] 0 _ rfl) (by decide)⟩
  have Hu37 := Aside0.mk hu37
  replace BX_a := Aside0.mk (blk_below BX_a.out hbu37)
  replace BX_a_ := Aside0.mk (blk_below BX_a_.out hbu37)
  replace BX_b_ := Aside0.mk (blk_below BX_b_.out hbu37)
  replace BX_c_ := Aside0.mk (blk_below BX_c_.out hbu37)
  replace BX_d_ := Aside0.mk (blk_below BX_d_.out hbu37)
  replace BX_w_ := Aside0.mk (blk_below BX_w_.out hbu37)
  replace BX_j_ := Aside0.mk (blk_below BX_j_.out hbu37)
  replace BX_k_ := Aside0.mk (blk_below BX_k_.out hbu37)
  replace RD_a0 := Aside0.mk (RD_a0.out.below hbu37)
  replace RD_a1 := Aside0.mk (RD_a1.out.below hbu37)
  replace RD_x10 := Aside0.mk (RD_x10.out.below hbu37)
  replace RD_x11 := Aside0.mk (RD_x11.out.below hbu37)
  replace RD_x20 := Aside0.mk (RD_x20.out.below hbu37)
  replace RD_x21 := Aside0.mk (RD_x21.out.below hbu37)
  replace RD_x30 := Aside0.mk (RD_x30.out.below hbu37)
  replace RD_x31 := Aside0.mk (RD_x31.out.below hbu37)
  replace RD_x40 := Aside0.mk (RD_x40.out.below hbu37)
  replace RD_x41 := Aside0.mk (RD_x41.out.below hbu37)
  replace RD_x50 := Aside0.mk (RD_x50.out.below hbu37)
  replace RD_x51 := Aside0.mk (RD_x51.out.below hbu37)
  replace RD_x60 := Aside0.mk (RD_x60.out.below hbu37)
  replace RD_x61 := Aside0.mk (RD_x61.out.below hbu37)
  replace RD_x70 := Aside0.mk (RD_x70.out.below hbu37)
  replace RD_x71 := Aside0.mk (RD_x71.out.below hbu37)
  replace RD_l1 := Aside0.mk (RD_l1.out.below hbu37)
  replace RD_l2 := Aside0.mk (RD_l2.out.below hbu37)
  replace RD_l3 := Aside0.mk (RD_l3.out.below hbu37)
  replace BW := Aside0.mk (below_then BW.out BW.out.size hbu37)
  clear hbu37 hu37
  go_wp2_with fail
  rw [Hu37.out]
  clear q36
  clear Hu37
  refine (same2_r (b := [2, 4]) (by rw [H4.out.2.2.1] <;> rfl) RD_x41.out RD_l4.out).mono ?_
  rintro e v38 ⟨rfl, hb⟩
  replace BX_a := Aside0.mk (blk_below BX_a.out hb)
  replace BX_a_ := Aside0.mk (blk_below BX_a_.out hb)
  replace BX_b_ := Aside0.mk (blk_below BX_b_.out hb)
  replace BX_c_ := Aside0.mk (blk_below BX_c_.out hb)
  replace BX_d_ := Aside0.mk (blk_below BX_d_.out hb)
  replace BX_w_ := Aside0.mk (blk_below BX_w_.out hb)
  replace BX_j_ := Aside0.mk (blk_below BX_j_.out hb)
  replace BX_k_ := Aside0.mk (blk_below BX_k_.out hb)
  replace RD_a0 := Aside0.mk (RD_a0.out.below hb)
  replace RD_a1 := Aside0.mk (RD_a1.out.below hb)
  replace RD_x10 := Aside0.mk (RD_x10.out.below hb)
  replace RD_x11 := Aside0.mk (RD_x11.out.below hb)
  replace RD_x20 := Aside0.mk (RD_x20.out.below hb)
  replace RD_x21 := Aside0.mk (RD_x21.out.below hb)
  replace RD_x30 := Aside0.mk (RD_x30.out.below hb)
  replace RD_x31 := Aside0.mk (RD_x31.out.below hb)
  replace RD_x40 := Aside0.mk (RD_x40.out.below hb)
  replace RD_x41 := Aside0.mk (RD_x41.out.below hb)
  replace RD_x50 := Aside0.mk (RD_x50.out.below hb)
  replace RD_x51 := Aside0.mk (RD_x51.out.below hb)
  replace RD_x60 := Aside0.mk (RD_x60.out.below hb)
  replace RD_x61 := Aside0.mk (RD_x61.out.below hb)
  replace RD_x70 := Aside0.mk (RD_x70.out.below hb)
  replace RD_x71 := Aside0.mk (RD_x71.out.below hb)
  replace RD_l1 := Aside0.mk (RD_l1.out.below hb)
  replace RD_l2 := Aside0.mk (RD_l2.out.below hb)
  replace RD_l3 := Aside0.mk (RD_l3.out.below hb)
  replace RD_l4 := Aside0.mk (RD_l4.out.below hb)
  replace BW := Aside0.mk (below_then BW.out BW.out.size hb)
  clear hb
  have q39 : v38.cell? ⟨v20.heap.size, 1, none⟩ = some (.slice A'x5 d5.length k'x5) := (blk_cell BX_w_.out 1).trans rfl
  obtain ⟨u40, hu40⟩ : ∃ u, (v38.alloc (Obj.cells #[.int .i64 5, .int .i64 4, .int .i64 5, .int .i64 4] 3)) = u := ⟨_, rfl⟩
  have hbu40 : Below v38.heap.size v38 u40 := by rw [← hu40]; exact below_fold v38 [Obj.cells #[.int .i64 5, .int .i64 4, .int .i64 5, .int .i64 4] 3]
  have RD_l5 : Aside0 (Rd u40 (.slice (some ⟨v38.heap.size, 0, none⟩) 4 4) [5, 4, 5, 4]) := ⟨by rw [← hu40]; exact Rd.of_blk (xs := [5, 4, 5, 4]) (blk_fold v38 [Obj.cells #[.int .i64 5, .int .i64 4, .int .i64 5, .int .i64 4] 3] 0 _ rfl) (by decide)⟩
  have Hu40 := Aside0.mk hu40
  replace BX_a := Aside0.mk (blk_below BX_a.out hbu40)
  replace BX_a_ := Aside0.mk (blk_below BX_a_.out hbu40)
  replace BX_b_ := Aside0.mk (blk_below BX_b_.out hbu40)
  replace BX_c_ := Aside0.mk (blk_below BX_c_.out hbu40)
  replace BX_d_ := Aside0.mk (blk_below BX_d_.out hbu40)
  replace BX_w_ := Aside0.mk (blk_below BX_w_.out hbu40)
  replace BX_j_ := Aside0.mk (blk_below BX_j_.out hbu40)
  replace BX_k_ := Aside0.mk (blk_below BX_k_.out hbu40)
  replace RD_a0 := Aside0.mk (RD_a0.out.below hbu40)
  replace RD_a1 := Aside0.mk (RD_a1.out.below hbu40)
  replace RD_x10 := Aside0.mk (RD_x10.out.below hbu40)
  replace RD_x11 := Aside0.mk (RD_x11.out.below hbu40)
  replace RD_x20 := Aside0.mk (RD_x20.out.below hbu40)
  replace RD_x21 := Aside0.mk (RD_x21.out.below hbu40)
  replace RD_x30 := Aside0.mk (RD_x30.out.below hbu40)
  replace RD_x31 := Aside0.mk (RD_x31.out.below hbu40)
  replace RD_x40 := Aside0.mk (RD_x40.out.below hbu40)
  replace RD_x41 := Aside0.mk (RD_x41.out.below hbu40)
  replace RD_x50 := Aside0.mk (RD_x50.out.below hbu40)
  replace RD_x51 := Aside0.mk (RD_x51.out.below hbu40)
  replace RD_x60 := Aside0.mk (RD_x60.out.below hbu40)
  replace RD_x61 := Aside0.mk (RD_x61.out.below hbu40)
  replace RD_x70 := Aside0.mk (RD_x70.out.below hbu40)
  replace RD_x71 := Aside0.mk (RD_x71.out.below hbu40)
  replace RD_l1 := Aside0.mk (RD_l1.out.below hbu40)
  replace RD_l2 := Aside0.mk (RD_l2.out.below hbu40)
  replace RD_l3 := Aside0.mk (RD_l3.out.below hbu40)
  replace RD_l4 := Aside0.mk (RD_l4.out.below hbu40)
  replace BW := Aside0.mk (below_then BW.out BW.out.size hbu40)
  clear hbu40 hu40
  go_wp2_with fail
  rw [Hu40.out]
  clear q39
  clear Hu40
  refine (same2_r (b := [5, 4, 5, 4]) (by rw [H5.out.2.2.1] <;> rfl) RD_x51.out RD_l5.out).mono ?_
  rintro e v41 ⟨rfl, hb⟩
  replace BX_a := Aside0.mk (blk_below BX_a.out hb)
  replace BX_a_ := Aside0.mk (blk_below BX_a_.out hb)
  replace BX_b_ := Aside0.mk (blk_below BX_b_.out hb)
  replace BX_c_ := Aside0.mk (blk_below BX_c_.out hb)
  replace BX_d_ := Aside0.mk (blk_below BX_d_.out hb)
  replace BX_w_ := Aside0.mk (blk_below BX_w_.out hb)
  replace BX_j_ := Aside0.mk (blk_below BX_j_.out hb)
  replace BX_k_ := Aside0.mk (blk_below BX_k_.out hb)
  replace RD_a0 := Aside0.mk (RD_a0.out.below hb)
  replace RD_a1 := Aside0.mk (RD_a1.out.below hb)
  replace RD_x10 := Aside0.mk (RD_x10.out.below hb)
  replace RD_x11 := Aside0.mk (RD_x11.out.below hb)
  replace RD_x20 := Aside0.mk (RD_x20.out.below hb)
  replace RD_x21 := Aside0.mk (RD_x21.out.below hb)
  replace RD_x30 := Aside0.mk (RD_x30.out.below hb)
  replace RD_x31 := Aside0.mk (RD_x31.out.below hb)
  replace RD_x40 := Aside0.mk (RD_x40.out.below hb)
  replace RD_x41 := Aside0.mk (RD_x41.out.below hb)
  replace RD_x50 := Aside0.mk (RD_x50.out.below hb)
  replace RD_x51 := Aside0.mk (RD_x51.out.below hb)
  replace RD_x60 := Aside0.mk (RD_x60.out.below hb)
  replace RD_x61 := Aside0.mk (RD_x61.out.below hb)
  replace RD_x70 := Aside0.mk (RD_x70.out.below hb)
  replace RD_x71 := Aside0.mk (RD_x71.out.below hb)
  replace RD_l1 := Aside0.mk (RD_l1.out.below hb)
  replace RD_l2 := Aside0.mk (RD_l2.out.below hb)
  replace RD_l3 := Aside0.mk (RD_l3.out.below hb)
  replace RD_l4 := Aside0.mk (RD_l4.out.below hb)
  replace RD_l5 := Aside0.mk (RD_l5.out.below hb)
  replace BW := Aside0.mk (below_then BW.out BW.out.size hb)
  clear hb
  go_wp2_with fail
  go_ret
  exact ⟨rfl, BW.out⟩
end Go.Proofs.Ytpnigmcpifilmaa.P
