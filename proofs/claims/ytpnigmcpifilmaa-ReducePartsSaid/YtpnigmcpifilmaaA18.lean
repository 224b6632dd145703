/- The head of the statements, fullerlaw04.awake, returns true. -/
import Derived.Test.YtpnigmcpifilmaaA17
namespace Go.Proofs.Ytpnigmcpifilmaa.P
open Go.RowKit Go.Shelf Go.Proofs.YtpnigmcpifilmaaW.PrintWords Go.Proofs.YtpnigmcpifilmaaW.PrintLast Go.Proofs.YtpnigmcpifilmaaW.PrintMore
set_option linter.unusedVariables false
set_option linter.unusedSimpArgs false
theorem blk_fold (x : World) : ∀ (os : List Obj) (i : Nat) (o : Obj), os[i]? = some o → (os.foldl World.alloc x).heap[x.heap.size + i]? = some o := by
  intro os
  induction os generalizing x with
  | nil => intro i o h; simp at h
  | cons a os ih =>
    intro i o h
    cases i with
    | zero =>
      simp at h; subst h
      have : ∀ (os : List Obj) (y : World) (k : Nat) (o : Obj), y.heap[k]? = some o → (os.foldl World.alloc y).heap[k]? = some o := by
        intro os
        induction os with
        | nil => intro y k o h; exact h
        | cons b os ih2 => intro y k o h; exact ih2 _ _ _ (blk_alloc h b)
      exact this os _ _ _ (blk_new x a)
    | succ i =>
      have := ih (x.alloc a) i o (by simpa using h)
      rw [World.size_alloc] at this
      rw [show x.heap.size + (i + 1) = x.heap.size + 1 + i by omega]
      exact this
theorem below_fold (x : World) : ∀ (os : List Obj), Below x.heap.size x (os.foldl World.alloc x) := by
  have : ∀ (os : List Obj) (y : World), Below x.heap.size x y → Below x.heap.size x (os.foldl World.alloc y) := by
    intro os
    induction os with
    | nil => intro y h; exact h
    | cons b os ih => intro y h; exact ih _ (below_alloc h b)
  exact fun os => this os x (Below.refl _ _)
theorem Rd.of_blk {W : World} {b : Nat} {xs : List Int} (h : W.heap[b]? = some (.cells (nums .i64 xs).toArray 3 (0, 0))) (hl : xs.length ≤ 1000) : Rd W (.slice (some ⟨b, 0, none⟩) xs.length xs.length) xs :=
  Rd.of_own (base := 0) ⟨by simp [nums], .inr ⟨b, xs.length, (nums .i64 xs).toArray, rfl, Nat.zero_le _, h, Nat.le_refl _, by unfold maxLen; omega, by simp [nums], by simp [nums]; exact List.take_of_length_le (by simp)⟩⟩
theorem allI_small {l : List Int} (h : l.all (fun x => decide (-1000 ≤ x) && decide (x ≤ 1000)) = true) : allI l := by
  intro x hx
  have := List.all_eq_true.1 h x hx
  simp at this
  unfold isI64; omega
set_option maxRecDepth 100000 in
set_option maxHeartbeats 1000000 in
theorem awake04 (w : World) : Calls Try.prog 14 #[] w fun e w' => e = .returned (.bool true) ∧ Below w.heap.size w w' := by
  obtain ⟨s1, d1, e1, H1⟩ : ∃ s d e, Aside0 (elemTwo 11 [2] [5, 1] [] [2] = ((s, d), e) ∧ s = [2] ∧ d = [3, -1] ∧ e = 0) := ⟨_, _, _, ⟨aw1, rfl, rfl, rfl⟩⟩
  have z1 : (e1 == 0) = true := by rw [H1.out.2.2.2]; rfl
  obtain ⟨s2, d2, e2, H2⟩ : ∃ s d e, Aside0 (elemOne 20 [2] [5, 1] = ((s, d), e) ∧ s = [2] ∧ d = [-5, -1] ∧ e = 0) := ⟨_, _, _, ⟨aw2, rfl, rfl, rfl⟩⟩
  have z2 : (e2 == 0) = true := by rw [H2.out.2.2.2]; rfl
  obtain ⟨s3, d3, e3, H3⟩ : ∃ s d e, Aside0 (elemOne 10 [2] [5, 1] = ((s, d), e) ∧ s = [] ∧ d = [] ∧ e = 1) := ⟨_, _, _, ⟨aw3, rfl, rfl, rfl⟩⟩
  have z3 : (e3 == 1) = true := by rw [H3.out.2.2.2]; rfl
  obtain ⟨s4, d4, e4, H4⟩ : ∃ s d e, Aside0 (elemTwo 20 [2] [5, 1] [] [2] = ((s, d), e) ∧ s = [] ∧ d = [] ∧ e = 1) := ⟨_, _, _, ⟨aw4, rfl, rfl, rfl⟩⟩
  have z4 : (e4 == 1) = true := by rw [H4.out.2.2.2]; rfl
  obtain ⟨s5, d5, e5, H5⟩ : ∃ s d e, Aside0 (elemTwo 13 [2] [5, 1] [] [0] = ((s, d), e) ∧ s = [] ∧ d = [] ∧ e = 11) := ⟨_, _, _, ⟨aw5, rfl, rfl, rfl⟩⟩
  have z5 : (e5 == 11) = true := by rw [H5.out.2.2.2]; rfl
  obtain ⟨s6, d6, e6, H6⟩ : ∃ s d e, Aside0 (elemOne 21 s2 d2 = ((s, d), e) ∧ s = [2] ∧ d = [0, 0] ∧ e = 0) := ⟨_, _, _, ⟨by rw [H2.out.2.1, H2.out.2.2.1]; exact aw6, rfl, rfl, rfl⟩⟩
  have z6 : (e6 == 0) = true := by rw [H6.out.2.2.2]; rfl
  have BW : Aside0 (Below w.heap.size w w) := ⟨Below.refl _ _⟩
  go_enter Try.func14, Try.ntmps14
  have q1 : (((((w.alloc (Obj.cells #[.int .i64 2] 3)).alloc (Obj.cells #[.int .i64 5, .int .i64 1] 3)).alloc (Obj.cells #[.slice (some ⟨w.heap.size, 0, none⟩) 1 1, .slice (some ⟨w.heap.size + 1, 0, none⟩) 2 2] 24)).alloc (Obj.cells #[.int .i64 2] 3)).alloc (Obj.cells #[.slice none 0 0, .slice (some ⟨w.heap.size + 3, 0, none⟩) 1 1] 24)).cell? ⟨w.heap.size + 2, 0, none⟩ = some (.slice (some ⟨w.heap.size, 0, none⟩) 1 1) := (blk_cell (blk_fold w [Obj.cells #[.int .i64 2] 3, Obj.cells #[.int .i64 5, .int .i64 1] 3, Obj.cells #[.slice (some ⟨w.heap.size, 0, none⟩) 1 1, .slice (some ⟨w.heap.size + 1, 0, none⟩) 2 2] 24, Obj.cells #[.int .i64 2] 3, Obj.cells #[.slice none 0 0, .slice (some ⟨w.heap.size + 3, 0, none⟩) 1 1] 24] 2 _ rfl) 0).trans rfl
  have q2 : (((((w.alloc (Obj.cells #[.int .i64 2] 3)).alloc (Obj.cells #[.int .i64 5, .int .i64 1] 3)).alloc (Obj.cells #[.slice (some ⟨w.heap.size, 0, none⟩) 1 1, .slice (some ⟨w.heap.size + 1, 0, none⟩) 2 2] 24)).alloc (Obj.cells #[.int .i64 2] 3)).alloc (Obj.cells #[.slice none 0 0, .slice (some ⟨w.heap.size + 3, 0, none⟩) 1 1] 24)).cell? ⟨w.heap.size + 2, 1, none⟩ = some (.slice (some ⟨w.heap.size + 1, 0, none⟩) 2 2) := (blk_cell (blk_fold w [Obj.cells #[.int .i64 2] 3, Obj.cells #[.int .i64 5, .int .i64 1] 3, Obj.cells #[.slice (some ⟨w.heap.size, 0, none⟩) 1 1, .slice (some ⟨w.heap.size + 1, 0, none⟩) 2 2] 24, Obj.cells #[.int .i64 2] 3, Obj.cells #[.slice none 0 0, .slice (some ⟨w.heap.size + 3, 0, none⟩) 1 1] 24] 2 _ rfl) 1).trans rfl
  have q3 : (((((w.alloc (Obj.cells #[.int .i64 2] 3)).alloc (Obj.cells #[.int .i64 5, .int .i64 1] 3)).alloc (Obj.cells #[.slice (some ⟨w.heap.size, 0, none⟩) 1 1, .slice (some ⟨w.heap.size + 1, 0, none⟩) 2 2] 24)).alloc (Obj.cells #[.int .i64 2] 3)).alloc (Obj.cells #[.slice none 0 0, .slice (some ⟨w.heap.size + 3, 0, none⟩) 1 1] 24)).cell? ⟨w.heap.size + 4, 0, none⟩ = some (.slice none 0 0) := (blk_cell (blk_fold w [Obj.cells #[.int .i64 2] 3, Obj.cells #[.int .i64 5, .int .i64 1] 3, Obj.cells #[.slice (some ⟨w.heap.size, 0, none⟩) 1 1, .slice (some ⟨w.heap.size + 1, 0, none⟩) 2 2] 24, Obj.cells #[.int .i64 2] 3, Obj.cells #[.slice none 0 0, .slice (some ⟨w.heap.size + 3, 0, none⟩) 1 1] 24] 4 _ rfl) 0).trans rfl
  have q4 : (((((w.alloc (Obj.cells #[.int .i64 2] 3)).alloc (Obj.cells #[.int .i64 5, .int .i64 1] 3)).alloc (Obj.cells #[.slice (some ⟨w.heap.size, 0, none⟩) 1 1, .slice (some ⟨w.heap.size + 1, 0, none⟩) 2 2] 24)).alloc (Obj.cells #[.int .i64 2] 3)).alloc (Obj.cells #[.slice none 0 0, .slice (some ⟨w.heap.size + 3, 0, none⟩) 1 1] 24)).cell? ⟨w.heap.size + 4, 1, none⟩ = some (.slice (some ⟨w.heap.size + 3, 0, none⟩) 1 1) := (blk_cell (blk_fold w [Obj.cells #[.int .i64 2] 3, Obj.cells #[.int .i64 5, .int .i64 1] 3, Obj.cells #[.slice (some ⟨w.heap.size, 0, none⟩) 1 1, .slice (some ⟨w.heap.size + 1, 0, none⟩) 2 2] 24, Obj.cells #[.int .i64 2] 3, Obj.cells #[.slice none 0 0, .slice (some ⟨w.heap.size + 3, 0, none⟩) 1 1] 24] 4 _ rfl) 1).trans rfl
  obtain ⟨u5, hu5⟩ : ∃ u, (((((w.alloc (Obj.cells #[.int .i64 2] 3)).alloc (Obj.cells #[.int .i64 5, .int .i64 1] 3)).alloc (Obj.cells #[.slice (some ⟨w.heap.size, 0, none⟩) 1 1, .slice (some ⟨w.heap.size + 1, 0, none⟩) 2 2] 24)).alloc (Obj.cells #[.int .i64 2] 3)).alloc (Obj.cells #[.slice none 0 0, .slice (some ⟨w.heap.size + 3, 0, none⟩) 1 1] 24)) = u := ⟨_, rfl⟩
  have hbu5 : Below w.heap.size w u5 := by rw [← hu5]; exact below_fold w [Obj.cells #[.int .i64 2] 3, Obj.cells #[.int .i64 5, .int .i64 1] 3, Obj.cells #[.slice (some ⟨w.heap.size, 0, none⟩) 1 1, .slice (some ⟨w.heap.size + 1, 0, none⟩) 2 2] 24, Obj.cells #[.int .i64 2] 3, Obj.cells #[.slice none 0 0, .slice (some ⟨w.heap.size + 3, 0, none⟩) 1 1] 24]
  have BX_a : Aside0 (u5.heap[w.heap.size + 2]? = some (.cells #[.slice (some ⟨w.heap.size, 0, none⟩) 1 1, .slice (some ⟨w.heap.size + 1, 0, none⟩) 2 2] 24 (0, 0))) := ⟨by rw [← hu5]; exact blk_fold w [Obj.cells #[.int .i64 2] 3, Obj.cells #[.int .i64 5, .int .i64 1] 3, Obj.cells #[.slice (some ⟨w.heap.size, 0, none⟩) 1 1, .slice (some ⟨w.heap.size + 1, 0, none⟩) 2 2] 24, Obj.cells #[.int .i64 2] 3, Obj.cells #[.slice none 0 0, .slice (some ⟨w.heap.size + 3, 0, none⟩) 1 1] 24] 2 _ rfl⟩
  have BX_b : Aside0 (u5.heap[w.heap.size + 4]? = some (.cells #[.slice none 0 0, .slice (some ⟨w.heap.size + 3, 0, none⟩) 1 1] 24 (0, 0))) := ⟨by rw [← hu5]; exact blk_fold w [Obj.cells #[.int .i64 2] 3, Obj.cells #[.int .i64 5, .int .i64 1] 3, Obj.cells #[.slice (some ⟨w.heap.size, 0, none⟩) 1 1, .slice (some ⟨w.heap.size + 1, 0, none⟩) 2 2] 24, Obj.cells #[.int .i64 2] 3, Obj.cells #[.slice none 0 0, .slice (some ⟨w.heap.size + 3, 0, none⟩) 1 1] 24] 4 _ rfl⟩
  have RD_a0 : Aside0 (Rd u5 (.slice (some ⟨w.heap.size, 0, none⟩) 1 1) [2]) := ⟨by rw [← hu5]; exact Rd.of_blk (xs := [2]) (blk_fold w [Obj.cells #[.int .i64 2] 3, Obj.cells #[.int .i64 5, .int .i64 1] 3, Obj.cells #[.slice (some ⟨w.heap.size, 0, none⟩) 1 1, .slice (some ⟨w.heap.size + 1, 0, none⟩) 2 2] 24, Obj.cells #[.int .i64 2] 3, Obj.cells #[.slice none 0 0, .slice (some ⟨w.heap.size + 3, 0, none⟩) 1 1] 24] 0 _ rfl) (by decide)⟩
  have RD_a1 : Aside0 (Rd u5 (.slice (some ⟨w.heap.size + 1, 0, none⟩) 2 2) [5, 1]) := ⟨by rw [← hu5]; exact Rd.of_blk (xs := [5, 1]) (blk_fold w [Obj.cells #[.int .i64 2] 3, Obj.cells #[.int .i64 5, .int .i64 1] 3, Obj.cells #[.slice (some ⟨w.heap.size, 0, none⟩) 1 1, .slice (some ⟨w.heap.size + 1, 0, none⟩) 2 2] 24, Obj.cells #[.int .i64 2] 3, Obj.cells #[.slice none 0 0, .slice (some ⟨w.heap.size + 3, 0, none⟩) 1 1] 24] 1 _ rfl) (by decide)⟩
  have RD_b1 : Aside0 (Rd u5 (.slice (some ⟨w.heap.size + 3, 0, none⟩) 1 1) [2]) := ⟨by rw [← hu5]; exact Rd.of_blk (xs := [2]) (blk_fold w [Obj.cells #[.int .i64 2] 3, Obj.cells #[.int .i64 5, .int .i64 1] 3, Obj.cells #[.slice (some ⟨w.heap.size, 0, none⟩) 1 1, .slice (some ⟨w.heap.size + 1, 0, none⟩) 2 2] 24, Obj.cells #[.int .i64 2] 3, Obj.cells #[.slice none 0 0, .slice (some ⟨w.heap.size + 3, 0, none⟩) 1 1] 24] 3 _ rfl) (by decide)⟩
  have Hu5 := Aside0.mk hu5
  replace BW := Aside0.mk (below_then BW.out BW.out.size hbu5)
  clear hbu5 hu5
  go_wp2_with fail
  rw [Hu5.out]
  clear q1 q2 q3 q4
  clear Hu5
  refine (two_r (a1 := [2]) (a2 := [5, 1]) (b1 := []) (b2 := [2]) 11 H1.out.1 RD_a0.out RD_a1.out (Rd.nil _) RD_b1.out (allI_small (by decide)) (allI_small (by decide))).mono ?_
  rintro e v6 ⟨Ax1, kx1, A'x1, k'x1, rfl, r0, r1, hb⟩
  have RD_x10 := Aside0.mk r0
  have RD_x11 := Aside0.mk r1
  replace BX_a := Aside0.mk (blk_below BX_a.out hb)
  replace BX_b := Aside0.mk (blk_below BX_b.out hb)
  replace RD_a0 := Aside0.mk (RD_a0.out.below hb)
  replace RD_a1 := Aside0.mk (RD_a1.out.below hb)
  replace RD_b1 := Aside0.mk (RD_b1.out.below hb)
  replace BW := Aside0.mk (below_then BW.out BW.out.size hb)
  clear hb r0 r1
  have q7 : (v6.alloc (Obj.cells #[.slice Ax1 s1.length kx1, .slice A'x1 d1.length k'x1] 24)).cell? ⟨w.heap.size + 2, 0, none⟩ = some (.slice (some ⟨w.heap.size, 0, none⟩) 1 1) := (blk_cell (blk_below BX_a.out (below_fold v6 [Obj.cells #[.slice Ax1 s1.length kx1, .slice A'x1 d1.length k'x1] 24])) 0).trans rfl
  have q8 : (v6.alloc (Obj.cells #[.slice Ax1 s1.length kx1, .slice A'x1 d1.length k'x1] 24)).cell? ⟨w.heap.size + 2, 1, none⟩ = some (.slice (some ⟨w.heap.size + 1, 0, none⟩) 2 2) := (blk_cell (blk_below BX_a.out (below_fold v6 [Obj.cells #[.slice Ax1 s1.length kx1, .slice A'x1 d1.length k'x1] 24])) 1).trans rfl
  obtain ⟨u9, hu9⟩ : ∃ u, (v6.alloc (Obj.cells #[.slice Ax1 s1.length kx1, .slice A'x1 d1.length k'x1] 24)) = u := ⟨_, rfl⟩
  have hbu9 : Below v6.heap.size v6 u9 := by rw [← hu9]; exact below_fold v6 [Obj.cells #[.slice Ax1 s1.length kx1, .slice A'x1 d1.length k'x1] 24]
  have BX_s : Aside0 (u9.heap[v6.heap.size]? = some (.cells #[.slice Ax1 s1.length kx1, .slice A'x1 d1.length k'x1] 24 (0, 0))) := ⟨by rw [← hu9]; exact blk_fold v6 [Obj.cells #[.slice Ax1 s1.length kx1, .slice A'x1 d1.length k'x1] 24] 0 _ rfl⟩
  have Hu9 := Aside0.mk hu9
  replace BX_a := Aside0.mk (blk_below BX_a.out hbu9)
  replace BX_b := Aside0.mk (blk_below BX_b.out hbu9)
  replace RD_a0 := Aside0.mk (RD_a0.out.below hbu9)
  replace RD_a1 := Aside0.mk (RD_a1.out.below hbu9)
  replace RD_b1 := Aside0.mk (RD_b1.out.below hbu9)
  replace RD_x10 := Aside0.mk (RD_x10.out.below hbu9)
  replace RD_x11 := Aside0.mk (RD_x11.out.below hbu9)
  replace BW := Aside0.mk (below_then BW.out BW.out.size hbu9)
  clear hbu9 hu9
  go_wp2_with fail
  rw [Hu9.out]
  clear q7 q8
  clear Hu9
  refine (one_r (a1 := [2]) (a2 := [5, 1]) 20 H2.out.1 RD_a0.out RD_a1.out (allI_small (by decide))).mono ?_
  rintro e v10 ⟨Ax2, kx2, A'x2, k'x2, rfl, r0, r1, hb⟩
  have RD_x20 := Aside0.mk r0
  have RD_x21 := Aside0.mk r1
  replace BX_a := Aside0.mk (blk_below BX_a.out hb)
  replace BX_b := Aside0.mk (blk_below BX_b.out hb)
  replace BX_s := Aside0.mk (blk_below BX_s.out hb)
  replace RD_a0 := Aside0.mk (RD_a0.out.below hb)
  replace RD_a1 := Aside0.mk (RD_a1.out.below hb)
  replace RD_b1 := Aside0.mk (RD_b1.out.below hb)
  replace RD_x10 := Aside0.mk (RD_x10.out.below hb)
  replace RD_x11 := Aside0.mk (RD_x11.out.below hb)
  replace BW := Aside0.mk (below_then BW.out BW.out.size hb)
  clear hb r0 r1
  have q11 : (v10.alloc (Obj.cells #[.slice Ax2 s2.length kx2, .slice A'x2 d2.length k'x2] 24)).cell? ⟨w.heap.size + 2, 0, none⟩ = some (.slice (some ⟨w.heap.size, 0, none⟩) 1 1) := (blk_cell (blk_below BX_a.out (below_fold v10 [Obj.cells #[.slice Ax2 s2.length kx2, .slice A'x2 d2.length k'x2] 24])) 0).trans rfl
  have q12 : (v10.alloc (Obj.cells #[.slice Ax2 s2.length kx2, .slice A'x2 d2.length k'x2] 24)).cell? ⟨w.heap.size + 2, 1, none⟩ = some (.slice (some ⟨w.heap.size + 1, 0, none⟩) 2 2) := (blk_cell (blk_below BX_a.out (below_fold v10 [Obj.cells #[.slice Ax2 s2.length kx2, .slice A'x2 d2.length k'x2] 24])) 1).trans rfl
  obtain ⟨u13, hu13⟩ : ∃ u, (v10.alloc (Obj.cells #[.slice Ax2 s2.length kx2, .slice A'x2 d2.length k'x2] 24)) = u := ⟨_, rfl⟩
  have hbu13 : Below v10.heap.size v10 u13 := by rw [← hu13]; exact below_fold v10 [Obj.cells #[.slice Ax2 s2.length kx2, .slice A'x2 d2.length k'x2] 24]
  have BX_n : Aside0 (u13.heap[v10.heap.size]? = some (.cells #[.slice Ax2 s2.length kx2, .slice A'x2 d2.length k'x2] 24 (0, 0))) := ⟨by rw [← hu13]; exact blk_fold v10 [Obj.cells #[.slice Ax2 s2.length kx2, .slice A'x2 d2.length k'x2] 24] 0 _ rfl⟩
  have Hu13 := Aside0.mk hu13
  replace BX_a := Aside0.mk (blk_below BX_a.out hbu13)
  replace BX_b := Aside0.mk (blk_below BX_b.out hbu13)
  replace BX_s := Aside0.mk (blk_below BX_s.out hbu13)
  replace RD_a0 := Aside0.mk (RD_a0.out.below hbu13)
  replace RD_a1 := Aside0.mk (RD_a1.out.below hbu13)
  replace RD_b1 := Aside0.mk (RD_b1.out.below hbu13)
  replace RD_x10 := Aside0.mk (RD_x10.out.below hbu13)
  replace RD_x11 := Aside0.mk (RD_x11.out.below hbu13)
  replace RD_x20 := Aside0.mk (RD_x20.out.below hbu13)
  replace RD_x21 := Aside0.mk (RD_x21.out.below hbu13)
  replace BW := Aside0.mk (below_then BW.out BW.out.size hbu13)
  clear hbu13 hu13
  go_wp2_with fail
  rw [Hu13.out]
  clear q11 q12
  clear Hu13
  refine (one_r (a1 := [2]) (a2 := [5, 1]) 10 H3.out.1 RD_a0.out RD_a1.out (allI_small (by decide))).mono ?_
  rintro e v14 ⟨Ax3, kx3, A'x3, k'x3, rfl, r0, r1, hb⟩
  have RD_x30 := Aside0.mk r0
  have RD_x31 := Aside0.mk r1
  replace BX_a := Aside0.mk (blk_below BX_a.out hb)
  replace BX_b := Aside0.mk (blk_below BX_b.out hb)
  replace BX_s := Aside0.mk (blk_below BX_s.out hb)
  replace BX_n := Aside0.mk (blk_below BX_n.out hb)
  replace RD_a0 := Aside0.mk (RD_a0.out.below hb)
  replace RD_a1 := Aside0.mk (RD_a1.out.below hb)
  replace RD_b1 := Aside0.mk (RD_b1.out.below hb)
  replace RD_x10 := Aside0.mk (RD_x10.out.below hb)
  replace RD_x11 := Aside0.mk (RD_x11.out.below hb)
  replace RD_x20 := Aside0.mk (RD_x20.out.below hb)
  replace RD_x21 := Aside0.mk (RD_x21.out.below hb)
  replace BW := Aside0.mk (below_then BW.out BW.out.size hb)
  clear hb r0 r1
  have q15 : (v14.alloc (Obj.cells #[.slice Ax3 s3.length kx3, .slice A'x3 d3.length k'x3] 24)).cell? ⟨w.heap.size + 2, 0, none⟩ = some (.slice (some ⟨w.heap.size, 0, none⟩) 1 1) := (blk_cell (blk_below BX_a.out (below_fold v14 [Obj.cells #[.slice Ax3 s3.length kx3, .slice A'x3 d3.length k'x3] 24])) 0).trans rfl
  have q16 : (v14.alloc (Obj.cells #[.slice Ax3 s3.length kx3, .slice A'x3 d3.length k'x3] 24)).cell? ⟨w.heap.size + 2, 1, none⟩ = some (.slice (some ⟨w.heap.size + 1, 0, none⟩) 2 2) := (blk_cell (blk_below BX_a.out (below_fold v14 [Obj.cells #[.slice Ax3 s3.length kx3, .slice A'x3 d3.length k'x3] 24])) 1).trans rfl
  have q17 : (v14.alloc (Obj.cells #[.slice Ax3 s3.length kx3, .slice A'x3 d3.length k'x3] 24)).cell? ⟨w.heap.size + 4, 0, none⟩ = some (.slice none 0 0) := (blk_cell (blk_below BX_b.out (below_fold v14 [Obj.cells #[.slice Ax3 s3.length kx3, .slice A'x3 d3.length k'x3] 24])) 0).trans rfl
  have q18 : (v14.alloc (Obj.cells #[.slice Ax3 s3.length kx3, .slice A'x3 d3.length k'x3] 24)).cell? ⟨w.heap.size + 4, 1, none⟩ = some (.slice (some ⟨w.heap.size + 3, 0, none⟩) 1 1) := (blk_cell (blk_below BX_b.out (below_fold v14 [Obj.cells #[.slice Ax3 s3.length kx3, .slice A'x3 d3.length k'x3] 24])) 1).trans rfl
  obtain ⟨u19, hu19⟩ : ∃ u, (v14.alloc (Obj.cells #[.slice Ax3 s3.length kx3, .slice A'x3 d3.length k'x3] 24)) = u := ⟨_, rfl⟩
  have hbu19 : Below v14.heap.size v14 u19 := by rw [← hu19]; exact below_fold v14 [Obj.cells #[.slice Ax3 s3.length kx3, .slice A'x3 d3.length k'x3] 24]
  have BX_g : Aside0 (u19.heap[v14.heap.size]? = some (.cells #[.slice Ax3 s3.length kx3, .slice A'x3 d3.length k'x3] 24 (0, 0))) := ⟨by rw [← hu19]; exact blk_fold v14 [Obj.cells #[.slice Ax3 s3.length kx3, .slice A'x3 d3.length k'x3] 24] 0 _ rfl⟩
  have Hu19 := Aside0.mk hu19
  replace BX_a := Aside0.mk (blk_below BX_a.out hbu19)
  replace BX_b := Aside0.mk (blk_below BX_b.out hbu19)
  replace BX_s := Aside0.mk (blk_below BX_s.out hbu19)
  replace BX_n := Aside0.mk (blk_below BX_n.out hbu19)
  replace RD_a0 := Aside0.mk (RD_a0.out.below hbu19)
  replace RD_a1 := Aside0.mk (RD_a1.out.below hbu19)
  replace RD_b1 := Aside0.mk (RD_b1.out.below hbu19)
  replace RD_x10 := Aside0.mk (RD_x10.out.below hbu19)
  replace RD_x11 := Aside0.mk (RD_x11.out.below hbu19)
  replace RD_x20 := Aside0.mk (RD_x20.out.below hbu19)
  replace RD_x21 := Aside0.mk (RD_x21.out.below hbu19)
  replace RD_x30 := Aside0.mk (RD_x30.out.below hbu19)
  replace RD_x31 := Aside0.mk (RD_x31.out.below hbu19)
  replace BW := Aside0.mk (below_then BW.out BW.out.size hbu19)
  clear hbu19 hu19
  go_wp2_with fail
  rw [Hu19.out]
  clear q15 q16 q17 q18
  clear Hu19
  refine (two_r (a1 := [2]) (a2 := [5, 1]) (b1 := []) (b2 := [2]) 20 H4.out.1 RD_a0.out RD_a1.out (Rd.nil _) RD_b1.out (allI_small (by decide)) (allI_small (by decide))).mono ?_
  rintro e v20 ⟨Ax4, kx4, A'x4, k'x4, rfl, r0, r1, hb⟩
  have RD_x40 := Aside0.mk r0
  have RD_x41 := Aside0.mk r1
  replace BX_a := Aside0.mk (blk_below BX_a.out hb)
  replace BX_b := Aside0.mk (blk_below BX_b.out hb)
  replace BX_s := Aside0.mk (blk_below BX_s.out hb)
  replace BX_n := Aside0.mk (blk_below BX_n.out hb)
  replace BX_g := Aside0.mk (blk_below BX_g.out hb)
  replace RD_a0 := Aside0.mk (RD_a0.out.below hb)
  replace RD_a1 := Aside0.mk (RD_a1.out.below hb)
  replace RD_b1 := Aside0.mk (RD_b1.out.below hb)
  replace RD_x10 := Aside0.mk (RD_x10.out.below hb)
  replace RD_x11 := Aside0.mk (RD_x11.out.below hb)
  replace RD_x20 := Aside0.mk (RD_x20.out.below hb)
  replace RD_x21 := Aside0.mk (RD_x21.out.below hb)
  replace RD_x30 := Aside0.mk (RD_x30.out.below hb)
  replace RD_x31 := Aside0.mk (RD_x31.out.below hb)
  replace BW := Aside0.mk (below_then BW.out BW.out.size hb)
  clear hb r0 r1
  have q21 : (v20.alloc (Obj.cells #[.slice Ax4 s4.length kx4, .slice A'x4 d4.length k'x4] 24)).cell? ⟨w.heap.size + 2, 0, none⟩ = some (.slice (some ⟨w.heap.size, 0, none⟩) 1 1) := (blk_cell (blk_below BX_a.out (below_fold v20 [Obj.cells #[.slice Ax4 s4.length kx4, .slice A'x4 d4.length k'x4] 24])) 0).trans rfl
  have q22 : (v20.alloc (Obj.cells #[.slice Ax4 s4.length kx4, .slice A'x4 d4.length k'x4] 24)).cell? ⟨w.heap.size + 2, 1, none⟩ = some (.slice (some ⟨w.heap.size + 1, 0, none⟩) 2 2) := (blk_cell (blk_below BX_a.out (below_fold v20 [Obj.cells #[.slice Ax4 s4.length kx4, .slice A'x4 d4.length k'x4] 24])) 1).trans rfl
  obtain ⟨u23, hu23⟩ : ∃ u, ((v20.alloc (Obj.cells #[.slice Ax4 s4.length kx4, .slice A'x4 d4.length k'x4] 24)).alloc (Obj.cells #[.int .i64 0] 3)) = u := ⟨_, rfl⟩
  have hbu23 : Below v20.heap.size v20 u23 := by rw [← hu23]; exact below_fold v20 [Obj.cells #[.slice Ax4 s4.length kx4, .slice A'x4 d4.length k'x4] 24, Obj.cells #[.int .i64 0] 3]
  have BX_h : Aside0 (u23.heap[v20.heap.size]? = some (.cells #[.slice Ax4 s4.length kx4, .slice A'x4 d4.length k'x4] 24 (0, 0))) := ⟨by rw [← hu23]; exact blk_fold v20 [Obj.cells #[.slice Ax4 s4.length kx4, .slice A'x4 d4.length k'x4] 24, Obj.cells #[.int .i64 0] 3] 0 _ rfl⟩
  have RD_z1 : Aside0 (Rd u23 (.slice (some ⟨v20.heap.size + 1, 0, none⟩) 1 1) [0]) := ⟨by rw [← hu23]; exact Rd.of_blk (xs := [0]) (blk_fold v20 [Obj.cells #[.slice Ax4 s4.length kx4, .slice A'x4 d4.length k'x4] 24, Obj.cells #[.int .i64 0] 3] 1 _ rfl) (by decide)⟩
  have Hu23 := Aside0.mk hu23
  replace BX_a := Aside0.mk (blk_below BX_a.out hbu23)
  replace BX_b := Aside0.mk (blk_below BX_b.out hbu23)
  replace BX_s := Aside0.mk (blk_below BX_s.out hbu23)
  replace BX_n := Aside0.mk (blk_below BX_n.out hbu23)
  replace BX_g := Aside0.mk (blk_below BX_g.out hbu23)
  replace RD_a0 := Aside0.mk (RD_a0.out.below hbu23)
  replace RD_a1 := Aside0.mk (RD_a1.out.below hbu23)
  replace RD_b1 := Aside0.mk (RD_b1.out.below hbu23)
  replace RD_x10 := Aside0.mk (RD_x10.out.below hbu23)
  replace RD_x11 := Aside0.mk (RD_x11.out.below hbu23)
  replace RD_x20 := Aside0.mk (RD_x20.out.below hbu23)
  replace RD_x21 := Aside0.mk (RD_x21.out.below hbu23)
  replace RD_x30 := Aside0.mk (RD_x30.out.below hbu23)
  replace RD_x31 := Aside0.mk (RD_x31.out.below hbu23)
  replace RD_x40 := Aside0.mk (RD_x40.out.below hbu23)
  replace RD_x41 := Aside0.mk (RD_x41.out.below hbu23)
  replace BW := Aside0.mk (below_then BW.out BW.out.size hbu23)
  clear hbu23 hu23
  go_wp2_with fail
  rw [Hu23.out]
  clear q21 q22
  clear Hu23
  refine (two_r (a1 := [2]) (a2 := [5, 1]) (b1 := []) (b2 := [0]) 13 H5.out.1 RD_a0.out RD_a1.out (Rd.nil _) RD_z1.out (allI_small (by decide)) (allI_small (by decide))).mono ?_
  rintro e v24 ⟨Ax5, kx5, A'x5, k'x5, rfl, r0, r1, hb⟩
  have RD_x50 := Aside0.mk r0
  have RD_x51 := Aside0.mk r1
  replace BX_a := Aside0.mk (blk_below BX_a.out hb)
  replace BX_b := Aside0.mk (blk_below BX_b.out hb)
  replace BX_s := Aside0.mk (blk_below BX_s.out hb)
  replace BX_n := Aside0.mk (blk_below BX_n.out hb)
  replace BX_g := Aside0.mk (blk_below BX_g.out hb)
  replace BX_h := Aside0.mk (blk_below BX_h.out hb)
  replace RD_a0 := Aside0.mk (RD_a0.out.below hb)
  replace RD_a1 := Aside0.mk (RD_a1.out.below hb)
  replace RD_b1 := Aside0.mk (RD_b1.out.below hb)
  replace RD_x10 := Aside0.mk (RD_x10.out.below hb)
  replace RD_x11 := Aside0.mk (RD_x11.out.below hb)
  replace RD_x20 := Aside0.mk (RD_x20.out.below hb)
  replace RD_x21 := Aside0.mk (RD_x21.out.below hb)
  replace RD_x30 := Aside0.mk (RD_x30.out.below hb)
  replace RD_x31 := Aside0.mk (RD_x31.out.below hb)
  replace RD_x40 := Aside0.mk (RD_x40.out.below hb)
  replace RD_x41 := Aside0.mk (RD_x41.out.below hb)
  replace RD_z1 := Aside0.mk (RD_z1.out.below hb)
  replace BW := Aside0.mk (below_then BW.out BW.out.size hb)
  clear hb r0 r1
  have q25 : (v24.alloc (Obj.cells #[.slice Ax5 s5.length kx5, .slice A'x5 d5.length k'x5] 24)).cell? ⟨v10.heap.size, 0, none⟩ = some (.slice Ax2 s2.length kx2) := (blk_cell (blk_below BX_n.out (below_fold v24 [Obj.cells #[.slice Ax5 s5.length kx5, .slice A'x5 d5.length k'x5] 24])) 0).trans rfl
  have q26 : (v24.alloc (Obj.cells #[.slice Ax5 s5.length kx5, .slice A'x5 d5.length k'x5] 24)).cell? ⟨v10.heap.size, 1, none⟩ = some (.slice A'x2 d2.length k'x2) := (blk_cell (blk_below BX_n.out (below_fold v24 [Obj.cells #[.slice Ax5 s5.length kx5, .slice A'x5 d5.length k'x5] 24])) 1).trans rfl
  obtain ⟨u27, hu27⟩ : ∃ u, (v24.alloc (Obj.cells #[.slice Ax5 s5.length kx5, .slice A'x5 d5.length k'x5] 24)) = u := ⟨_, rfl⟩
  have hbu27 : Below v24.heap.size v24 u27 := by rw [← hu27]; exact below_fold v24 [Obj.cells #[.slice Ax5 s5.length kx5, .slice A'x5 d5.length k'x5] 24]
  have BX_i : Aside0 (u27.heap[v24.heap.size]? = some (.cells #[.slice Ax5 s5.length kx5, .slice A'x5 d5.length k'x5] 24 (0, 0))) := ⟨by rw [← hu27]; exact blk_fold v24 [Obj.cells #[.slice Ax5 s5.length kx5, .slice A'x5 d5.length k'x5] 24] 0 _ rfl⟩
  have Hu27 := Aside0.mk hu27
  replace BX_a := Aside0.mk (blk_below BX_a.out hbu27)
  replace BX_b := Aside0.mk (blk_below BX_b.out hbu27)
  replace BX_s := Aside0.mk (blk_below BX_s.out hbu27)
  replace BX_n := Aside0.mk (blk_below BX_n.out hbu27)
  replace BX_g := Aside0.mk (blk_below BX_g.out hbu27)
  replace BX_h := Aside0.mk (blk_below BX_h.out hbu27)
  replace RD_a0 := Aside0.mk (RD_a0.out.below hbu27)
  replace RD_a1 := Aside0.mk (RD_a1.out.below hbu27)
  replace RD_b1 := Aside0.mk (RD_b1.out.below hbu27)
  replace RD_x10 := Aside0.mk (RD_x10.out.below hbu27)
  replace RD_x11 := Aside0.mk (RD_x11.out.below hbu27)
  replace RD_x20 := Aside0.mk (RD_x20.out.below hbu27)
  replace RD_x21 := Aside0.mk (RD_x21.out.below hbu27)
  replace RD_x30 := Aside0.mk (RD_x30.out.below hbu27)
  replace RD_x31 := Aside0.mk (RD_x31.out.below hbu27)
  replace RD_x40 := Aside0.mk (RD_x40.out.below hbu27)
  replace RD_x41 := Aside0.mk (RD_x41.out.below hbu27)
  replace RD_z1 := Aside0.mk (RD_z1.out.below hbu27)
  replace RD_x50 := Aside0.mk (RD_x50.out.below hbu27)
  replace RD_x51 := Aside0.mk (RD_x51.out.below hbu27)
  replace BW := Aside0.mk (below_then BW.out BW.out.size hbu27)
  clear hbu27 hu27
  go_wp2_with fail
  rw [Hu27.out]
  clear q25 q26
  clear Hu27
  refine (one_r (a1 := s2) (a2 := d2) 21 H6.out.1 RD_x20.out RD_x21.out (by rw [H2.out.2.2.1]; exact allI_small (by decide))).mono ?_
  rintro e v28 ⟨Ax6, kx6, A'x6, k'x6, rfl, r0, r1, hb⟩
  have RD_x60 := Aside0.mk r0
  have RD_x61 := Aside0.mk r1
  replace BX_a := Aside0.mk (blk_below BX_a.out hb)
  replace BX_b := Aside0.mk (blk_below BX_b.out hb)
  replace BX_s := Aside0.mk (blk_below BX_s.out hb)
  replace BX_n := Aside0.mk (blk_below BX_n.out hb)
  replace BX_g := Aside0.mk (blk_below BX_g.out hb)
  replace BX_h := Aside0.mk (blk_below BX_h.out hb)
  replace BX_i := Aside0.mk (blk_below BX_i.out hb)
  replace RD_a0 := Aside0.mk (RD_a0.out.below hb)
  replace RD_a1 := Aside0.mk (RD_a1.out.below hb)
  replace RD_b1 := Aside0.mk (RD_b1.out.below hb)
  replace RD_x10 := Aside0.mk (RD_x10.out.below hb)
  replace RD_x11 := Aside0.mk (RD_x11.out.below hb)
  replace RD_x20 := Aside0.mk (RD_x20.out.below hb)
  replace RD_x21 := Aside0.mk (RD_x21.out.below hb)
  replace RD_x30 := Aside0.mk (RD_x30.out.below hb)
  replace RD_x31 := Aside0.mk (RD_x31.out.below hb)
  replace RD_x40 := Aside0.mk (RD_x40.out.below hb)
  replace RD_x41 := Aside0.mk (RD_x41.out.below hb)
  replace RD_z1 := Aside0.mk (RD_z1.out.below hb)
  replace RD_x50 := Aside0.mk (RD_x50.out.below hb)
  replace RD_x51 := Aside0.mk (RD_x51.out.below hb)
  replace BW := Aside0.mk (below_then BW.out BW.out.size hb)
  clear hb r0 r1
  have q29 : (v28.alloc (Obj.cells #[.slice Ax6 s6.length kx6, .slice A'x6 d6.length k'x6] 24)).cell? ⟨v6.heap.size, 1, none⟩ = some (.slice A'x1 d1.length k'x1) := (blk_cell (blk_below BX_s.out (below_fold v28 [Obj.cells #[.slice Ax6 s6.length kx6, .slice A'x6 d6.length k'x6] 24])) 1).trans rfl
  obtain ⟨u30, hu30⟩ : ∃ u, ((v28.alloc (Obj.cells #[.slice Ax6 s6.length kx6, .slice A'x6 d6.length k'x6] 24)).alloc (Obj.cells #[.int .i64 3, .int .i64 (-1)] 3)) = u := ⟨_, rfl⟩
  have hbu30 : Below v28.heap.size v28 u30 := by rw [← hu30]; exact below_fold v28 [Obj.cells #[.slice Ax6 s6.length kx6, .slice A'x6 d6.length k'x6] 24, Obj.cells #[.int .i64 3, .int .i64 (-1)] 3]
  have BX_r : Aside0 (u30.heap[v28.heap.size]? = some (.cells #[.slice Ax6 s6.length kx6, .slice A'x6 d6.length k'x6] 24 (0, 0))) := ⟨by rw [← hu30]; exact blk_fold v28 [Obj.cells #[.slice Ax6 s6.length kx6, .slice A'x6 d6.length k'x6] 24, Obj.cells #[.int .i64 3, .int .i64 (-1)] 3] 0 _ rfl⟩
  have RD_l1 : Aside0 (Rd u30 (.slice (some ⟨v28.heap.size + 1, 0, none⟩) 2 2) [3, -1]) := ⟨by rw [← hu30]; exact Rd.of_blk (xs := [3, -1]) (blk_fold v28 [Obj.cells #[.slice Ax6 s6.length kx6, .slice A'x6 d6.length k'x6] 24, Obj.cells #[.int .i64 3, .int .i64 (-1)] 3] 1 _ rfl) (by decide)⟩
  have Hu30 := Aside0.mk hu30
  replace BX_a := Aside0.mk (blk_below BX_a.out hbu30)
  replace BX_b := Aside0.mk (blk_below BX_b.out hbu30)
  replace BX_s := Aside0.mk (blk_below BX_s.out hbu30)
  replace BX_n := Aside0.mk (blk_below BX_n.out hbu30)
  replace BX_g := Aside0.mk (blk_below BX_g.out hbu30)
  replace BX_h := Aside0.mk (blk_below BX_h.out hbu30)
  replace BX_i := Aside0.mk (blk_below BX_i.out hbu30)
  replace RD_a0 := Aside0.mk (RD_a0.out.below hbu30)
  replace RD_a1 := Aside0.mk (RD_a1.out.below hbu30)
  replace RD_b1 := Aside0.mk (RD_b1.out.below hbu30)
  replace RD_x10 := Aside0.mk (RD_x10.out.below hbu30)
  replace RD_x11 := Aside0.mk (RD_x11.out.below hbu30)
  replace RD_x20 := Aside0.mk (RD_x20.out.below hbu30)
  replace RD_x21 := Aside0.mk (RD_x21.out.below hbu30)
  replace RD_x30 := Aside0.mk (RD_x30.out.below hbu30)
  replace RD_x31 := Aside0.mk (RD_x31.out.below hbu30)
  replace RD_x40 := Aside0.mk (RD_x40.out.below hbu30)
  replace RD_x41 := Aside0.mk (RD_x41.out.below hbu30)
  replace RD_z1 := Aside0.mk (RD_z1.out.below hbu30)
  replace RD_x50 := Aside0.mk (RD_x50.out.below hbu30)
  replace RD_x51 := Aside0.mk (RD_x51.out.below hbu30)
  replace RD_x60 := Aside0.mk (RD_x60.out.below hbu30)
  replace RD_x61 := Aside0.mk (RD_x61.out.below hbu30)
  replace BW := Aside0.mk (below_then BW.out BW.out.size hbu30)
  clear hbu30 hu30
  go_wp2_with fail
  rw [Hu30.out]
  clear q29
  clear Hu30
  refine (same2_r (b := [3, -1]) (by rw [H1.out.2.2.1] <;> rfl) RD_x11.out RD_l1.out).mono ?_
  rintro e v31 ⟨rfl, hb⟩
  replace BX_a := Aside0.mk (blk_below BX_a.out hb)
  replace BX_b := Aside0.mk (blk_below BX_b.out hb)
  replace BX_s := Aside0.mk (blk_below BX_s.out hb)
  replace BX_n := Aside0.mk (blk_below BX_n.out hb)
  replace BX_g := Aside0.mk (blk_below BX_g.out hb)
  replace BX_h := Aside0.mk (blk_below BX_h.out hb)
  replace BX_i := Aside0.mk (blk_below BX_i.out hb)
  replace BX_r := Aside0.mk (blk_below BX_r.out hb)
  replace RD_a0 := Aside0.mk (RD_a0.out.below hb)
  replace RD_a1 := Aside0.mk (RD_a1.out.below hb)
  replace RD_b1 := Aside0.mk (RD_b1.out.below hb)
  replace RD_x10 := Aside0.mk (RD_x10.out.below hb)
  replace RD_x11 := Aside0.mk (RD_x11.out.below hb)
  replace RD_x20 := Aside0.mk (RD_x20.out.below hb)
  replace RD_x21 := Aside0.mk (RD_x21.out.below hb)
  replace RD_x30 := Aside0.mk (RD_x30.out.below hb)
  replace RD_x31 := Aside0.mk (RD_x31.out.below hb)
  replace RD_x40 := Aside0.mk (RD_x40.out.below hb)
  replace RD_x41 := Aside0.mk (RD_x41.out.below hb)
  replace RD_z1 := Aside0.mk (RD_z1.out.below hb)
  replace RD_x50 := Aside0.mk (RD_x50.out.below hb)
  replace RD_x51 := Aside0.mk (RD_x51.out.below hb)
  replace RD_x60 := Aside0.mk (RD_x60.out.below hb)
  replace RD_x61 := Aside0.mk (RD_x61.out.below hb)
  replace RD_l1 := Aside0.mk (RD_l1.out.below hb)
  replace BW := Aside0.mk (below_then BW.out BW.out.size hb)
  clear hb
  have q32 : v31.cell? ⟨v10.heap.size, 1, none⟩ = some (.slice A'x2 d2.length k'x2) := (blk_cell BX_n.out 1).trans rfl
  obtain ⟨u33, hu33⟩ : ∃ u, (v31.alloc (Obj.cells #[.int .i64 (-5), .int .i64 (-1)] 3)) = u := ⟨_, rfl⟩
  have hbu33 : Below v31.heap.size v31 u33 := by rw [← hu33]; exact below_fold v31 [Obj.cells #[.int .i64 (-5), .int .i64 (-1)] 3]
  have RD_l2 : Aside0 (Rd u33 (.slice (some ⟨v31.heap.size, 0, none⟩) 2 2) [-5, -1]) := ⟨by rw [← hu33]; exact Rd.of_blk (xs := [-5, -1]) (blk_fold v31 [Obj.cells #[.int .i64 (-5), .int .i64 (-1)] 3] 0 _ rfl) (by decide)⟩
  have Hu33 := Aside0.mk hu33
  replace BX_a := Aside0.mk (blk_below BX_a.out hbu33)
  replace BX_b := Aside0.mk (blk_below BX_b.out hbu33)
  replace BX_s := Aside0.mk (blk_below BX_s.out hbu33)
  replace BX_n := Aside0.mk (blk_below BX_n.out hbu33)
  replace BX_g := Aside0.mk (blk_below BX_g.out hbu33)
  replace BX_h := Aside0.mk (blk_below BX_h.out hbu33)
  replace BX_i := Aside0.mk (blk_below BX_i.out hbu33)
  replace BX_r := Aside0.mk (blk_below BX_r.out hbu33)
  replace RD_a0 := Aside0.mk (RD_a0.out.below hbu33)
  replace RD_a1 := Aside0.mk (RD_a1.out.below hbu33)
  replace RD_b1 := Aside0.mk (RD_b1.out.below hbu33)
  replace RD_x10 := Aside0.mk (RD_x10.out.below hbu33)
  replace RD_x11 := Aside0.mk (RD_x11.out.below hbu33)
  replace RD_x20 := Aside0.mk (RD_x20.out.below hbu33)
  replace RD_x21 := Aside0.mk (RD_x21.out.below hbu33)
  replace RD_x30 := Aside0.mk (RD_x30.out.below hbu33)
  replace RD_x31 := Aside0.mk (RD_x31.out.below hbu33)
  replace RD_x40 := Aside0.mk (RD_x40.out.below hbu33)
  replace RD_x41 := Aside0.mk (RD_x41.out.below hbu33)
  replace RD_z1 := Aside0.mk (RD_z1.out.below hbu33)
  replace RD_x50 := Aside0.mk (RD_x50.out.below hbu33)
  replace RD_x51 := Aside0.mk (RD_x51.out.below hbu33)
  replace RD_x60 := Aside0.mk (RD_x60.out.below hbu33)
  replace RD_x61 := Aside0.mk (RD_x61.out.below hbu33)
  replace RD_l1 := Aside0.mk (RD_l1.out.below hbu33)
  replace BW := Aside0.mk (below_then BW.out BW.out.size hbu33)
  clear hbu33 hu33
  go_wp2_with fail
  rw [Hu33.out]
  clear q32
  clear Hu33
  refine (same2_r (b := [-5, -1]) (by rw [H2.out.2.2.1] <;> rfl) RD_x21.out RD_l2.out).mono ?_
  rintro e v34 ⟨rfl, hb⟩
  replace BX_a := Aside0.mk (blk_below BX_a.out hb)
  replace BX_b := Aside0.mk (blk_below BX_b.out hb)
  replace BX_s := Aside0.mk (blk_below BX_s.out hb)
  replace BX_n := Aside0.mk (blk_below BX_n.out hb)
  replace BX_g := Aside0.mk (blk_below BX_g.out hb)
  replace BX_h := Aside0.mk (blk_below BX_h.out hb)
  replace BX_i := Aside0.mk (blk_below BX_i.out hb)
  replace BX_r := Aside0.mk (blk_below BX_r.out hb)
  replace RD_a0 := Aside0.mk (RD_a0.out.below hb)
  replace RD_a1 := Aside0.mk (RD_a1.out.below hb)
  replace RD_b1 := Aside0.mk (RD_b1.out.below hb)
  replace RD_x10 := Aside0.mk (RD_x10.out.below hb)
  replace RD_x11 := Aside0.mk (RD_x11.out.below hb)
  replace RD_x20 := Aside0.mk (RD_x20.out.below hb)
  replace RD_x21 := Aside0.mk (RD_x21.out.below hb)
  replace RD_x30 := Aside0.mk (RD_x30.out.below hb)
  replace RD_x31 := Aside0.mk (RD_x31.out.below hb)
  replace RD_x40 := Aside0.mk (RD_x40.out.below hb)
  replace RD_x41 := Aside0.mk (RD_x41.out.below hb)
  replace RD_z1 := Aside0.mk (RD_z1.out.below hb)
  replace RD_x50 := Aside0.mk (RD_x50.out.below hb)
  replace RD_x51 := Aside0.mk (RD_x51.out.below hb)
  replace RD_x60 := Aside0.mk (RD_x60.out.below hb)
  replace RD_x61 := Aside0.mk (RD_x61.out.below hb)
  replace RD_l1 := Aside0.mk (RD_l1.out.below hb)
  replace RD_l2 := Aside0.mk (RD_l2.out.below hb)
  replace BW := Aside0.mk (below_then BW.out BW.out.size hb)
  clear hb
  have q35 : v34.cell? ⟨v28.heap.size, 1, none⟩ = some (.slice A'x6 d6.length k'x6) := (blk_cell BX_r.out 1).trans rfl
  obtain ⟨u36, hu36⟩ : ∃ u, (v34.alloc (Obj.cells #[.int .i64 0, .int .i64 0] 3)) = u := ⟨_, rfl⟩
  have hbu36 : Below v34.heap.size v34 u36 := by rw [← hu36]; exact below_fold v34 [Obj.cells #[.int .i64 0, .int .i64 0] 3]
  have RD_l3 : Aside0 (Rd u36 (.slice (some ⟨v34.heap.size, 0, none⟩) 2 2) [0, 0]) := ⟨by rw [← hu36]; exact Rd.of_blk (xs := [0, 0]) (blk_fold v34 [Obj.cells #[.int .i64 0, .int .i64 0] 3] 0 _ rfl) (by decide)⟩
  have Hu36 := Aside0.mk hu36
  replace BX_a := Aside0.mk (blk_below BX_a.out hbu36)
  replace BX_b := Aside0.mk (blk_below BX_b.out hbu36)
  replace BX_s := Aside0.mk (blk_below BX_s.out hbu36)
  replace BX_n := Aside0.mk (blk_below BX_n.out hbu36)
  replace BX_g := Aside0.mk (blk_below BX_g.out hbu36)
  replace BX_h := Aside0.mk (blk_below BX_h.out hbu36)
  replace BX_i := Aside0.mk (blk_below BX_i.out hbu36)
  replace BX_r := Aside0.mk (blk_below BX_r.out hbu36)
  replace RD_a0 := Aside0.mk (RD_a0.out.below hbu36)
  replace RD_a1 := Aside0.mk (RD_a1.out.below hbu36)
  replace RD_b1 := Aside0.mk (RD_b1.out.below hbu36)
  replace RD_x10 := Aside0.mk (RD_x10.out.below hbu36)
  replace RD_x11 := Aside0.mk (RD_x11.out.below hbu36)
  replace RD_x20 := Aside0.mk (RD_x20.out.below hbu36)
  replace RD_x21 := Aside0.mk (RD_x21.out.below hbu36)
  replace RD_x30 := Aside0.mk (RD_x30.out.below hbu36)
  replace RD_x31 := Aside0.mk (RD_x31.out.below hbu36)
  replace RD_x40 := Aside0.mk (RD_x40.out.below hbu36)
  replace RD_x41 := Aside0.mk (RD_x41.out.below hbu36)
  replace RD_z1 := Aside0.mk (RD_z1.out.below hbu36)
  replace RD_x50 := Aside0.mk (RD_x50.out.below hbu36)
  replace RD_x51 := Aside0.mk (RD_x51.out.below hbu36)
  replace RD_x60 := Aside0.mk (RD_x60.out.below hbu36)
  replace RD_x61 := Aside0.mk (RD_x61.out.below hbu36)
  replace RD_l1 := Aside0.mk (RD_l1.out.below hbu36)
  replace RD_l2 := Aside0.mk (RD_l2.out.below hbu36)
  replace BW := Aside0.mk (below_then BW.out BW.out.size hbu36)
  clear hbu36 hu36
  go_wp2_with fail
  rw [Hu36.out]
  clear q35
  clear Hu36
  refine (same2_r (b := [0, 0]) (by rw [H6.out.2.2.1] <;> rfl) RD_x61.out RD_l3.out).mono ?_
  rintro e v37 ⟨rfl, hb⟩
  replace BX_a := Aside0.mk (blk_below BX_a.out hb)
  replace BX_b := Aside0.mk (blk_below BX_b.out hb)
  replace BX_s := Aside0.mk (blk_below BX_s.out hb)
  replace BX_n := Aside0.mk (blk_below BX_n.out hb)
  replace BX_g := Aside0.mk (blk_below BX_g.out hb)
  replace BX_h := Aside0.mk (blk_below BX_h.out hb)
  replace BX_i := Aside0.mk (blk_below BX_i.out hb)
  replace BX_r := Aside0.mk (blk_below BX_r.out hb)
  replace RD_a0 := Aside0.mk (RD_a0.out.below hb)
  replace RD_a1 := Aside0.mk (RD_a1.out.below hb)
  replace RD_b1 := Aside0.mk (RD_b1.out.below hb)
  replace RD_x10 := Aside0.mk (RD_x10.out.below hb)
  replace RD_x11 := Aside0.mk (RD_x11.out.below hb)
  replace RD_x20 := Aside0.mk (RD_x20.out.below hb)
  replace RD_x21 := Aside0.mk (RD_x21.out.below hb)
  replace RD_x30 := Aside0.mk (RD_x30.out.below hb)
  replace RD_x31 := Aside0.mk (RD_x31.out.below hb)
  replace RD_x40 := Aside0.mk (RD_x40.out.below hb)
  replace RD_x41 := Aside0.mk (RD_x41.out.below hb)
  replace RD_z1 := Aside0.mk (RD_z1.out.below hb)
  replace RD_x50 := Aside0.mk (RD_x50.out.below hb)
  replace RD_x51 := Aside0.mk (RD_x51.out.below hb)
  replace RD_x60 := Aside0.mk (RD_x60.out.below hb)
  replace RD_x61 := Aside0.mk (RD_x61.out.below hb)
  replace RD_l1 := Aside0.mk (RD_l1.out.below hb)
  replace RD_l2 := Aside0.mk (RD_l2.out.below hb)
  replace RD_l3 := Aside0.mk (RD_l3.out.below hb)
  replace BW := Aside0.mk (below_then BW.out BW.out.size hb)
  clear hb
  go_wp2_with fail
  go_ret
  exact ⟨rfl, BW.out⟩
end Go.Proofs.Ytpnigmcpifilmaa.P
