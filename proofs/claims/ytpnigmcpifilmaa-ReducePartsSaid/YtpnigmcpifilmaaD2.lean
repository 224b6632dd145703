/- Contract of reduce.lanes. -/
import Derived.Test.YtpnigmcpifilmaaD1
import Derived.Deep.RegionHeld3
import Derived.Outline
namespace Go.Proofs.Ytpnigmcpifilmaa.P
open Go.RowKit Go.Shelf Go.Proofs.YtpnigmcpifilmaaW.PrintWords Go.Proofs.YtpnigmcpifilmaaW.PrintLast Go.Proofs.YtpnigmcpifilmaaW.PrintMore
set_option linter.unusedVariables false
set_option linter.unusedSimpArgs false
set_option maxHeartbeats 4000000
set_option maxRecDepth 100000 in
theorem lanes_untrue (A0 : Option Addr) (c0 : Nat) (s : List Int) (A1 : Option Addr) (c1 : Nat) (d : List Int) (ax : Int) (w : World) (r0 : Rd w (.slice A0 s.length c0) s) (ht : tOk s d = false) :
    Calls Try.prog 72 #[.agg #[.slice A0 s.length c0, .slice A1 d.length c1], .int .i64 ax] w fun e w' => e = .returned (.tuple #[.agg #[.int .i64 0, .int .i64 0, .int .i64 0], .int .i64 30]) ∧ Below w.heap.size w w' := by
  have HT := Aside0.mk ht
  clear ht
  have R0_a := Aside0.mk r0
  clear r0
  have BW : Aside0 (Below w.heap.size w w) := ⟨Below.refl _ _⟩
  go_enter Try.func72, Try.ntmps72
  have q1 : ((w.alloc (Obj.cells #[.slice A0 s.length c0, .slice A1 d.length c1] 24)).alloc (Obj.cells #[.int .i64 0, .int .i64 0, .int .i64 0] 91)).cell? ⟨w.heap.size, 0, none⟩ = some (.slice A0 s.length c0) := (blk_cell (blk_fold w [Obj.cells #[.slice A0 s.length c0, .slice A1 d.length c1] 24, Obj.cells #[.int .i64 0, .int .i64 0, .int .i64 0] 91] 0 _ rfl) 0).trans rfl
  have q2 : ((w.alloc (Obj.cells #[.slice A0 s.length c0, .slice A1 d.length c1] 24)).alloc (Obj.cells #[.int .i64 0, .int .i64 0, .int .i64 0] 91)).cell? ⟨w.heap.size, 1, none⟩ = some (.slice A1 d.length c1) := (blk_cell (blk_fold w [Obj.cells #[.slice A0 s.length c0, .slice A1 d.length c1] 24, Obj.cells #[.int .i64 0, .int .i64 0, .int .i64 0] 91] 0 _ rfl) 1).trans rfl
  obtain ⟨u3, hu3⟩ : ∃ u, ((w.alloc (Obj.cells #[.slice A0 s.length c0, .slice A1 d.length c1] 24)).alloc (Obj.cells #[.int .i64 0, .int .i64 0, .int .i64 0] 91)) = u := ⟨_, rfl⟩
  have hbu3 : Below w.heap.size w u3 := by rw [← hu3]; exact below_fold w [Obj.cells #[.slice A0 s.length c0, .slice A1 d.length c1] 24, Obj.cells #[.int .i64 0, .int .i64 0, .int .i64 0] 91]
  have S4 : Aside0 (u3.heap.size = w.heap.size + 2) := ⟨by rw [← hu3]; exact size_fold w [Obj.cells #[.slice A0 s.length c0, .slice A1 d.length c1] 24, Obj.cells #[.int .i64 0, .int .i64 0, .int .i64 0] 91]⟩
  have BX_t : Aside0 (u3.heap[w.heap.size]? = some (.cells #[.slice A0 s.length c0, .slice A1 d.length c1] 24 (0, 0))) := ⟨by rw [← hu3]; exact blk_fold w [Obj.cells #[.slice A0 s.length c0, .slice A1 d.length c1] 24, Obj.cells #[.int .i64 0, .int .i64 0, .int .i64 0] 91] 0 _ rfl⟩
  have BX_l : Aside0 (u3.heap[w.heap.size + 1]? = some (.cells #[.int .i64 0, .int .i64 0, .int .i64 0] 91 (0, 0))) := ⟨by rw [← hu3]; exact blk_fold w [Obj.cells #[.slice A0 s.length c0, .slice A1 d.length c1] 24, Obj.cells #[.int .i64 0, .int .i64 0, .int .i64 0] 91] 1 _ rfl⟩
  replace BW := Aside0.mk (below_then BW.out BW.out.size hbu3)
  have Hu3 := Aside0.mk hu3
  clear hbu3 hu3
  go_wp2_with fail
  rw [Hu3.out]
  clear q1 q2
  clear Hu3
  refine (tcheck_r (d := d) HT.out (R0_a.out.below BW.out)).mono ?_
  rintro e v5 ⟨rfl, hb⟩
  replace BX_t := Aside0.mk (blk_below BX_t.out hb)
  replace BX_l := Aside0.mk (blk_below BX_l.out hb)
  replace BW := Aside0.mk (below_then BW.out BW.out.size hb)
  have S6 : Aside0 (u3.heap.size ≤ v5.heap.size) := ⟨hb.size⟩
  clear hb
  have q7 : v5.cell? ⟨w.heap.size + 1, 0, none⟩ = some (.int .i64 0) := (blk_cell BX_l.out 0).trans rfl
  have q8 : v5.cell? ⟨w.heap.size + 1, 1, none⟩ = some (.int .i64 0) := (blk_cell BX_l.out 1).trans rfl
  have q9 : v5.cell? ⟨w.heap.size + 1, 2, none⟩ = some (.int .i64 0) := (blk_cell BX_l.out 2).trans rfl
  have q10 := blk_frozen BX_l.out 0
  have q11 := blk_frozen BX_l.out 1
  have q12 := blk_frozen BX_l.out 2
  go_wp2_with fail
  clear q7 q8 q9 q10 q11 q12
  exact end_lane rfl _ w v5 _ _ _ _ _ _ _ _ rfl rfl BW.out (by have := S4.out; have := S6.out; omega) BX_l.out
set_option maxRecDepth 100000 in
theorem lanes_unfit1 (A0 : Option Addr) (c0 : Nat) (s : List Int) (A1 : Option Addr) (c1 : Nat) (d : List Int) (ax : Int) (w : World) (r0 : Rd w (.slice A0 s.length c0) s) (ht : tOk s d = true) (hx : ax < 0) :
    Calls Try.prog 72 #[.agg #[.slice A0 s.length c0, .slice A1 d.length c1], .int .i64 ax] w fun e w' => e = .returned (.tuple #[.agg #[.int .i64 0, .int .i64 0, .int .i64 0], .int .i64 20]) ∧ Below w.heap.size w w' := by
  have HT := Aside0.mk ht
  clear ht
  have d1 : decide (ax < 0) = true := by simpa using hx
  clear hx
  have R0_a := Aside0.mk r0
  clear r0
  have BW : Aside0 (Below w.heap.size w w) := ⟨Below.refl _ _⟩
  go_enter Try.func72, Try.ntmps72
  have q1 : ((w.alloc (Obj.cells #[.slice A0 s.length c0, .slice A1 d.length c1] 24)).alloc (Obj.cells #[.int .i64 0, .int .i64 0, .int .i64 0] 91)).cell? ⟨w.heap.size, 0, none⟩ = some (.slice A0 s.length c0) := (blk_cell (blk_fold w [Obj.cells #[.slice A0 s.length c0, .slice A1 d.length c1] 24, Obj.cells #[.int .i64 0, .int .i64 0, .int .i64 0] 91] 0 _ rfl) 0).trans rfl
  have q2 : ((w.alloc (Obj.cells #[.slice A0 s.length c0, .slice A1 d.length c1] 24)).alloc (Obj.cells #[.int .i64 0, .int .i64 0, .int .i64 0] 91)).cell? ⟨w.heap.size, 1, none⟩ = some (.slice A1 d.length c1) := (blk_cell (blk_fold w [Obj.cells #[.slice A0 s.length c0, .slice A1 d.length c1] 24, Obj.cells #[.int .i64 0, .int .i64 0, .int .i64 0] 91] 0 _ rfl) 1).trans rfl
  obtain ⟨u3, hu3⟩ : ∃ u, ((w.alloc (Obj.cells #[.slice A0 s.length c0, .slice A1 d.length c1] 24)).alloc (Obj.cells #[.int .i64 0, .int .i64 0, .int .i64 0] 91)) = u := ⟨_, rfl⟩
  have hbu3 : Below w.heap.size w u3 := by rw [← hu3]; exact below_fold w [Obj.cells #[.slice A0 s.length c0, .slice A1 d.length c1] 24, Obj.cells #[.int .i64 0, .int .i64 0, .int .i64 0] 91]
  have S4 : Aside0 (u3.heap.size = w.heap.size + 2) := ⟨by rw [← hu3]; exact size_fold w [Obj.cells #[.slice A0 s.length c0, .slice A1 d.length c1] 24, Obj.cells #[.int .i64 0, .int .i64 0, .int .i64 0] 91]⟩
  have BX_t : Aside0 (u3.heap[w.heap.size]? = some (.cells #[.slice A0 s.length c0, .slice A1 d.length c1] 24 (0, 0))) := ⟨by rw [← hu3]; exact blk_fold w [Obj.cells #[.slice A0 s.length c0, .slice A1 d.length c1] 24, Obj.cells #[.int .i64 0, .int .i64 0, .int .i64 0] 91] 0 _ rfl⟩
  have BX_l : Aside0 (u3.heap[w.heap.size + 1]? = some (.cells #[.int .i64 0, .int .i64 0, .int .i64 0] 91 (0, 0))) := ⟨by rw [← hu3]; exact blk_fold w [Obj.cells #[.slice A0 s.length c0, .slice A1 d.length c1] 24, Obj.cells #[.int .i64 0, .int .i64 0, .int .i64 0] 91] 1 _ rfl⟩
  replace BW := Aside0.mk (below_then BW.out BW.out.size hbu3)
  have Hu3 := Aside0.mk hu3
  clear hbu3 hu3
  go_wp2_with fail
  rw [Hu3.out]
  clear q1 q2
  clear Hu3
  refine (tcheck_r (d := d) HT.out (R0_a.out.below BW.out)).mono ?_
  rintro e v5 ⟨rfl, hb⟩
  replace BX_t := Aside0.mk (blk_below BX_t.out hb)
  replace BX_l := Aside0.mk (blk_below BX_l.out hb)
  replace BW := Aside0.mk (below_then BW.out BW.out.size hb)
  have S6 : Aside0 (u3.heap.size ≤ v5.heap.size) := ⟨hb.size⟩
  clear hb
  have q7 : v5.cell? ⟨w.heap.size + 1, 0, none⟩ = some (.int .i64 0) := (blk_cell BX_l.out 0).trans rfl
  have q8 : v5.cell? ⟨w.heap.size + 1, 1, none⟩ = some (.int .i64 0) := (blk_cell BX_l.out 1).trans rfl
  have q9 : v5.cell? ⟨w.heap.size + 1, 2, none⟩ = some (.int .i64 0) := (blk_cell BX_l.out 2).trans rfl
  have q10 := blk_frozen BX_l.out 0
  have q11 := blk_frozen BX_l.out 1
  have q12 := blk_frozen BX_l.out 2
  go_wp2_with fail
  clear q7 q8 q9 q10 q11 q12
  exact end_lane rfl _ w v5 _ _ _ _ _ _ _ _ rfl rfl BW.out (by have := S4.out; have := S6.out; omega) BX_l.out
set_option maxRecDepth 100000 in
theorem lanes_unfit2 (A0 : Option Addr) (c0 : Nat) (s : List Int) (A1 : Option Addr) (c1 : Nat) (d : List Int) (ax : Int) (w : World) (r0 : Rd w (.slice A0 s.length c0) s) (ht : tOk s d = true) (hx : (s.length : Int) ≤ ax) :
    Calls Try.prog 72 #[.agg #[.slice A0 s.length c0, .slice A1 d.length c1], .int .i64 ax] w fun e w' => e = .returned (.tuple #[.agg #[.int .i64 0, .int .i64 0, .int .i64 0], .int .i64 20]) ∧ Below w.heap.size w w' := by
  have HT := Aside0.mk ht
  clear ht
  have d1 : decide (ax < 0) = false := by simp; omega
  have d2 : decide ((s.length : Int) ≤ ax) = true := by simpa using hx
  clear hx
  have R0_a := Aside0.mk r0
  clear r0
  have BW : Aside0 (Below w.heap.size w w) := ⟨Below.refl _ _⟩
  go_enter Try.func72, Try.ntmps72
  have q1 : ((w.alloc (Obj.cells #[.slice A0 s.length c0, .slice A1 d.length c1] 24)).alloc (Obj.cells #[.int .i64 0, .int .i64 0, .int .i64 0] 91)).cell? ⟨w.heap.size, 0, none⟩ = some (.slice A0 s.length c0) := (blk_cell (blk_fold w [Obj.cells #[.slice A0 s.length c0, .slice A1 d.length c1] 24, Obj.cells #[.int .i64 0, .int .i64 0, .int .i64 0] 91] 0 _ rfl) 0).trans rfl
  have q2 : ((w.alloc (Obj.cells #[.slice A0 s.length c0, .slice A1 d.length c1] 24)).alloc (Obj.cells #[.int .i64 0, .int .i64 0, .int .i64 0] 91)).cell? ⟨w.heap.size, 1, none⟩ = some (.slice A1 d.length c1) := (blk_cell (blk_fold w [Obj.cells #[.slice A0 s.length c0, .slice A1 d.length c1] 24, Obj.cells #[.int .i64 0, .int .i64 0, .int .i64 0] 91] 0 _ rfl) 1).trans rfl
  obtain ⟨u3, hu3⟩ : ∃ u, ((w.alloc (Obj.cells #[.slice A0 s.length c0, .slice A1 d.length c1] 24)).alloc (Obj.cells #[.int .i64 0, .int .i64 0, .int .i64 0] 91)) = u := ⟨_, rfl⟩
  have hbu3 : Below w.heap.size w u3 := by rw [← hu3]; exact below_fold w [Obj.cells #[.slice A0 s.length c0, .slice A1 d.length c1] 24, Obj.cells #[.int .i64 0, .int .i64 0, .int .i64 0] 91]
  have S4 : Aside0 (u3.heap.size = w.heap.size + 2) := ⟨by rw [← hu3]; exact size_fold w [Obj.cells #[.slice A0 s.length c0, .slice A1 d.length c1] 24, Obj.cells #[.int .i64 0, .int .i64 0, .int .i64 0] 91]⟩
  have BX_t : Aside0 (u3.heap[w.heap.size]? = some (.cells #[.slice A0 s.length c0, .slice A1 d.length c1] 24 (0, 0))) := ⟨by rw [← hu3]; exact blk_fold w [Obj.cells #[.slice A0 s.length c0, .slice A1 d.length c1] 24, Obj.cells #[.int .i64 0, .int .i64 0, .int .i64 0] 91] 0 _ rfl⟩
  have BX_l : Aside0 (u3.heap[w.heap.size + 1]? = some (.cells #[.int .i64 0, .int .i64 0, .int .i64 0] 91 (0, 0))) := ⟨by rw [← hu3]; exact blk_fold w [Obj.cells #[.slice A0 s.length c0, .slice A1 d.length c1] 24, Obj.cells #[.int .i64 0, .int .i64 0, .int .i64 0] 91] 1 _ rfl⟩
  replace BW := Aside0.mk (below_then BW.out BW.out.size hbu3)
  have Hu3 := Aside0.mk hu3
  clear hbu3 hu3
  go_wp2_with fail
  rw [Hu3.out]
  clear q1 q2
  clear Hu3
  refine (tcheck_r (d := d) HT.out (R0_a.out.below BW.out)).mono ?_
  rintro e v5 ⟨rfl, hb⟩
  replace BX_t := Aside0.mk (blk_below BX_t.out hb)
  replace BX_l := Aside0.mk (blk_below BX_l.out hb)
  replace BW := Aside0.mk (below_then BW.out BW.out.size hb)
  have S6 : Aside0 (u3.heap.size ≤ v5.heap.size) := ⟨hb.size⟩
  clear hb
  have q7 : v5.cell? ⟨w.heap.size, 0, none⟩ = some (.slice A0 s.length c0) := (blk_cell BX_t.out 0).trans rfl
  have q8 : v5.cell? ⟨w.heap.size + 1, 0, none⟩ = some (.int .i64 0) := (blk_cell BX_l.out 0).trans rfl
  have q9 : v5.cell? ⟨w.heap.size + 1, 1, none⟩ = some (.int .i64 0) := (blk_cell BX_l.out 1).trans rfl
  have q10 : v5.cell? ⟨w.heap.size + 1, 2, none⟩ = some (.int .i64 0) := (blk_cell BX_l.out 2).trans rfl
  have q11 := blk_frozen BX_l.out 0
  have q12 := blk_frozen BX_l.out 1
  have q13 := blk_frozen BX_l.out 2
  go_wp2_with fail
  clear q7 q8 q9 q10 q11 q12 q13
  exact end_lane rfl _ w v5 _ _ _ _ _ _ _ _ rfl rfl BW.out (by have := S4.out; have := S6.out; omega) BX_l.out
theorem size_at {A : Option Addr} {n c : Nat} {l : List Int} (w : World) (hn : l.length = n) (h : Kd.C (Kd.int .i64) w A l.length l) :
    Calls Try.prog 44 #[.slice A n c] w fun e w' => e = .returned (.int .i64 (sizeS l : Nat)) ∧ w = w' := by
  subst hn; exact size_sh A c l w h
theorem size_st {A : Option Addr} {n c : Nat} {l : List Int} (w : World) (hn : l.length = n) (h : Kd.C (Kd.int .i64) w A l.length l) :
    Calls Try.prog 44 #[.slice A n c] w fun e w' => e = .returned (.int .i64 (sizeS l : Nat)) ∧ w' = w :=
  (size_at w hn h).mono fun _ _ h => ⟨h.1, h.2.symm⟩
set_option maxRecDepth 100000 in
theorem lanes_ok (A0 : Option Addr) (c0 : Nat) (s : List Int) (A1 : Option Addr) (c1 : Nat) (d : List Int) (a : Nat) (w : World) (r0 : Rd w (.slice A0 s.length c0) s) (ht : tOk s d = true) (ha : a < s.length) :
    Calls Try.prog 72 #[.agg #[.slice A0 s.length c0, .slice A1 d.length c1], .int .i64 (a : Nat)] w fun e w' => e = .returned (.tuple #[.agg #[.int .i64 (sizeS (s.take a) : Nat), .int .i64 (rd s a), .int .i64 (sizeS (s.drop (a + 1)) : Nat)], .int .i64 0]) ∧ Below w.heap.size w w' := by
  have hl := shapeOk_len ((tOk_iff _ _).1 ht).1
  have HT := Aside0.mk ht
  clear ht
  obtain ⟨ad, rfl, hx⟩ := Kd.at_int r0.c.1 (a : Int) (by omega) (by omega)
  simp only [Int.toNat_natCast] at hx
  obtain ⟨x, hxe⟩ : ∃ x, rd s a = x := ⟨_, rfl⟩
  rw [hxe] at hx ⊢
  have HX := Aside0.mk hx
  clear hx hxe
  have d1 : decide ((a : Int) < 0) = false := by simp
  have d2 : decide ((s.length : Int) ≤ (a : Int)) = false := by simp; omega
  have d3 : decide (s.length ≤ a) = false := by simp; omega
  have w1 : IntKind.i64.wrap ((a : Int) + 1) = ((a + 1 : Nat) : Int) := by rw [wrap_in _ ⟨by omega, by omega⟩]; omega
  have hc := r0.c.2
  have L1 : Aside0 ((s.take a).length = a) := ⟨by simp; omega⟩
  have L2 : Aside0 ((s.drop (a + 1)).length = s.length - (a + 1)) := ⟨by simp⟩
  have R0_a := Aside0.mk r0
  clear r0
  have BW : Aside0 (Below w.heap.size w w) := ⟨Below.refl _ _⟩
  go_enter Try.func72, Try.ntmps72
  have q1 : ((w.alloc (Obj.cells #[.slice (some ad) s.length c0, .slice A1 d.length c1] 24)).alloc (Obj.cells #[.int .i64 0, .int .i64 0, .int .i64 0] 91)).cell? ⟨w.heap.size, 0, none⟩ = some (.slice (some ad) s.length c0) := (blk_cell (blk_fold w [Obj.cells #[.slice (some ad) s.length c0, .slice A1 d.length c1] 24, Obj.cells #[.int .i64 0, .int .i64 0, .int .i64 0] 91] 0 _ rfl) 0).trans rfl
  have q2 : ((w.alloc (Obj.cells #[.slice (some ad) s.length c0, .slice A1 d.length c1] 24)).alloc (Obj.cells #[.int .i64 0, .int .i64 0, .int .i64 0] 91)).cell? ⟨w.heap.size, 1, none⟩ = some (.slice A1 d.length c1) := (blk_cell (blk_fold w [Obj.cells #[.slice (some ad) s.length c0, .slice A1 d.length c1] 24, Obj.cells #[.int .i64 0, .int .i64 0, .int .i64 0] 91] 0 _ rfl) 1).trans rfl
  obtain ⟨u3, hu3⟩ : ∃ u, ((w.alloc (Obj.cells #[.slice (some ad) s.length c0, .slice A1 d.length c1] 24)).alloc (Obj.cells #[.int .i64 0, .int .i64 0, .int .i64 0] 91)) = u := ⟨_, rfl⟩
  have hbu3 : Below w.heap.size w u3 := by rw [← hu3]; exact below_fold w [Obj.cells #[.slice (some ad) s.length c0, .slice A1 d.length c1] 24, Obj.cells #[.int .i64 0, .int .i64 0, .int .i64 0] 91]
  have S4 : Aside0 (u3.heap.size = w.heap.size + 2) := ⟨by rw [← hu3]; exact size_fold w [Obj.cells #[.slice (some ad) s.length c0, .slice A1 d.length c1] 24, Obj.cells #[.int .i64 0, .int .i64 0, .int .i64 0] 91]⟩
  have BX_t : Aside0 (u3.heap[w.heap.size]? = some (.cells #[.slice (some ad) s.length c0, .slice A1 d.length c1] 24 (0, 0))) := ⟨by rw [← hu3]; exact blk_fold w [Obj.cells #[.slice (some ad) s.length c0, .slice A1 d.length c1] 24, Obj.cells #[.int .i64 0, .int .i64 0, .int .i64 0] 91] 0 _ rfl⟩
  have BX_l : Aside0 (u3.heap[w.heap.size + 1]? = some (.cells #[.int .i64 0, .int .i64 0, .int .i64 0] 91 (0, 0))) := ⟨by rw [← hu3]; exact blk_fold w [Obj.cells #[.slice (some ad) s.length c0, .slice A1 d.length c1] 24, Obj.cells #[.int .i64 0, .int .i64 0, .int .i64 0] 91] 1 _ rfl⟩
  replace BW := Aside0.mk (below_then BW.out BW.out.size hbu3)
  have Hu3 := Aside0.mk hu3
  clear hbu3 hu3
  go_wp2_with fail
  rw [Hu3.out]
  clear q1 q2
  clear Hu3
  by_cases hcap : a + 1 = c0
  case pos =>
    refine (tcheck_r (d := d) HT.out (R0_a.out.below BW.out)).mono ?_
    rintro e v5 ⟨rfl, hb⟩
    replace BX_t := Aside0.mk (blk_below BX_t.out hb)
    replace BX_l := Aside0.mk (blk_below BX_l.out hb)
    replace BW := Aside0.mk (below_then BW.out BW.out.size hb)
    have S6 : Aside0 (u3.heap.size ≤ v5.heap.size) := ⟨hb.size⟩
    clear hb
    have c0' : v5.cell? ⟨w.heap.size, 0, none⟩ = some (.slice (some ad) s.length c0) := (blk_cell BX_t.out 0).trans rfl
    have hx := pw_cell_below BW.out HX.out
    have C1 := Aside0.mk (C_take (R0_a.out.below BW.out).c.1 a (by omega))
    have C2 : Aside0 (Kd.C (Kd.int .i64) v5 (some ⟨ad.block, ad.off + (a + 1), none⟩) (s.drop (a + 1)).length (s.drop (a + 1))) := ⟨by have := C_drop (R0_a.out.below BW.out).c.1 (a + 1) (by omega); simpa [Addr.add] using this⟩
    have i1 : (0 : Int) ≤ (a : Int) := by omega
    have i2 : (a : Int) ≤ (c0 : Int) := by omega
    have i3 : (0 : Int) ≤ (a : Int) + 1 := by omega
    have i4 : (a : Int) + 1 ≤ (s.length : Int) := by omega
    have i5 : (s.length : Int) ≤ (c0 : Int) := by omega
    have i6 : (a : Int) + 1 ≤ (c0 : Int) := by omega
    have l0 : v5.cell? ⟨w.heap.size + 1, 0, none⟩ = some (.int .i64 0) := (blk_cell BX_l.out 0).trans rfl
    have f0 := blk_frozen BX_l.out 0
    have l1 : v5.cell? ⟨w.heap.size + 1, 1, none⟩ = some (.int .i64 0) := (blk_cell BX_l.out 1).trans rfl
    have f1 := blk_frozen BX_l.out 1
    have l2 : v5.cell? ⟨w.heap.size + 1, 2, none⟩ = some (.int .i64 0) := (blk_cell BX_l.out 2).trans rfl
    have f2 := blk_frozen BX_l.out 2
    have k1 : c0 - (a + 1) = 0 := by omega
    have k2 : s.length - (a + 1) = 0 := by omega
    have E2 : Aside0 (s.drop (a + 1) = []) := ⟨List.drop_eq_nil_of_le (by omega)⟩
    replace L2 : Aside0 ((s.drop (a + 1)).length = 0) := ⟨by rw [E2.out]; rfl⟩
    clear hcap i6
    go_wp2_with fail
    refine wp_region_still_tail 17 (by kernel_rfl) (by kernel_rfl) ?_
    simp only [List.take_succ_cons, List.take_zero, List.drop_succ_cons, List.drop_zero]
    repeat still_step
    still_call (size_st _ L1.out (Kd.C_drew C1.out))
    repeat still_step
    still_call (size_st _ L2.out (C_none E2.out))
    repeat still_step
    refine wpStill_nil ?_
    go_wp2_with fail
    all_goals exact end_lane_d rfl _ w v5 _ _ _ _ _ _ _ _ rfl rfl BW.out (by have := S4.out; have := S6.out; omega) BX_l.out
  case neg =>
    refine (tcheck_r (d := d) HT.out (R0_a.out.below BW.out)).mono ?_
    rintro e v5 ⟨rfl, hb⟩
    replace BX_t := Aside0.mk (blk_below BX_t.out hb)
    replace BX_l := Aside0.mk (blk_below BX_l.out hb)
    replace BW := Aside0.mk (below_then BW.out BW.out.size hb)
    have S6 : Aside0 (u3.heap.size ≤ v5.heap.size) := ⟨hb.size⟩
    clear hb
    have c0' : v5.cell? ⟨w.heap.size, 0, none⟩ = some (.slice (some ad) s.length c0) := (blk_cell BX_t.out 0).trans rfl
    have hx := pw_cell_below BW.out HX.out
    have C1 := Aside0.mk (C_take (R0_a.out.below BW.out).c.1 a (by omega))
    have C2 : Aside0 (Kd.C (Kd.int .i64) v5 (some ⟨ad.block, ad.off + (a + 1), none⟩) (s.drop (a + 1)).length (s.drop (a + 1))) := ⟨by have := C_drop (R0_a.out.below BW.out).c.1 (a + 1) (by omega); simpa [Addr.add] using this⟩
    have i1 : (0 : Int) ≤ (a : Int) := by omega
    have i2 : (a : Int) ≤ (c0 : Int) := by omega
    have i3 : (0 : Int) ≤ (a : Int) + 1 := by omega
    have i4 : (a : Int) + 1 ≤ (s.length : Int) := by omega
    have i5 : (s.length : Int) ≤ (c0 : Int) := by omega
    have i6 : (a : Int) + 1 ≤ (c0 : Int) := by omega
    have l0 : v5.cell? ⟨w.heap.size + 1, 0, none⟩ = some (.int .i64 0) := (blk_cell BX_l.out 0).trans rfl
    have f0 := blk_frozen BX_l.out 0
    have l1 : v5.cell? ⟨w.heap.size + 1, 1, none⟩ = some (.int .i64 0) := (blk_cell BX_l.out 1).trans rfl
    have f1 := blk_frozen BX_l.out 1
    have l2 : v5.cell? ⟨w.heap.size + 1, 2, none⟩ = some (.int .i64 0) := (blk_cell BX_l.out 2).trans rfl
    have f2 := blk_frozen BX_l.out 2
    have hcap2 : ¬ (c0 = a + 1) := fun h => hcap h.symm
    go_wp2_with fail
    refine wp_region_still_tail 17 (by kernel_rfl) (by kernel_rfl) ?_
    simp only [List.take_succ_cons, List.take_zero, List.drop_succ_cons, List.drop_zero]
    repeat still_step
    still_call (size_st _ L1.out (Kd.C_drew C1.out))
    repeat still_step
    still_call (size_st _ L2.out (Kd.C_drew C2.out))
    repeat still_step
    refine wpStill_nil ?_
    go_wp2_with fail
    all_goals exact end_lane_d rfl _ w v5 _ _ _ _ _ _ _ _ rfl rfl BW.out (by have := S4.out; have := S6.out; omega) BX_l.out
end Go.Proofs.Ytpnigmcpifilmaa.P
