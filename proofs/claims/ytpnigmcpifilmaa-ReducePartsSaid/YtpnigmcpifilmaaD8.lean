/- Contract of reduce.Grow. -/
import Derived.Test.YtpnigmcpifilmaaD7
import Derived.Deep.RegionHeld3
import Derived.Outline
import Derived.Laws.EntriesVeiled
namespace Go.Proofs.Ytpnigmcpifilmaa.P
open Go.RowKit Go.Shelf Go.Proofs.YtpnigmcpifilmaaW.PrintWords Go.Proofs.YtpnigmcpifilmaaW.PrintLast Go.Proofs.YtpnigmcpifilmaaW.PrintMore
set_option linter.unusedVariables false
set_option linter.unusedSimpArgs false
set_option maxHeartbeats 4000000
def growI (x : Int) (sd bh p : Nat) (l : List Int) : Nat → List Int
  | 0 => l
  | i + 1 => (growI x sd bh p l i).set (laneAt sd bh p i) x
def growP (d : List Int) (n sd bh : Nat) : Nat → List Int
  | 0 => List.replicate n 0
  | p + 1 => growI (rd d (p : Nat)) sd bh p (growP d n sd bh p) sd
theorem growI_len (x : Int) (sd bh p : Nat) (l : List Int) : ∀ i, (growI x sd bh p l i).length = l.length
  | 0 => rfl
  | i + 1 => by simp [growI, growI_len x sd bh p l i]
theorem growP_len (d : List Int) (n sd bh : Nat) : ∀ p, (growP d n sd bh p).length = n
  | 0 => by simp [growP]
  | p + 1 => by rw [growP, growI_len, growP_len d n sd bh p]
def growR (s d : List Int) (ax sd : Int) : TR :=
  if tOk s d then (if 0 ≤ ax ∧ ax ≤ s.length then (if shapeOk (insL s ax.toNat sd) then ((insL s ax.toNat sd, growP d (sizeS (insL s ax.toNat sd)) sd.toNat (sizeS (s.drop ax.toNat)) d.length), 0) else (([], []), 20)) else (([], []), 20)) else (([], []), 30)
theorem prod_ins (s : List Int) (a : Nat) (x : Int) : prod (insL s a x) = prod (s.take a) * (x * prod (s.drop a)) := by
  unfold insL; rw [prod_append]; rfl
theorem ins_ok {s : List Int} (hs : shapeOk s = true) {a : Nat} {x : Int} (ha : a ≤ s.length) (h : shapeOk (insL s a x) = true) : 1 ≤ x ∧ x ≤ 16 ∧ sizeS (insL s a x) = sizeS (s.take a) * x.toNat * sizeS (s.drop a) ∧ sizeS s = sizeS (s.take a) * sizeS (s.drop a) ∧ 1 ≤ sizeS (s.drop a) := by
  obtain ⟨t1, t2⟩ := cut_ok hs a
  have hx := (shapeOk_bd h).2.1
  rw [List.all_eq_true] at hx
  have hx2 := hx x (by simp [insL])
  simp only [sideOk, Bool.and_eq_true, decide_eq_true_eq] at hx2
  have q1 := sizeS_eq t1
  have q2 := sizeS_eq t2
  have q3 := sizeS_eq h
  have q4 := sizeS_eq hs
  have e := prod_take_drop s a
  have hxn : ((x.toNat : Nat) : Int) = x := by omega
  refine ⟨hx2.1, hx2.2, ?_, ?_, sizeS_pos t2⟩
  · have h' : ((sizeS (insL s a x) : Nat) : Int) = ((sizeS (s.take a) * x.toNat * sizeS (s.drop a) : Nat) : Int) := by
      rw [q3, prod_ins, Int.natCast_mul, Int.natCast_mul, q1, q2, hxn, Int.mul_assoc]
    exact Int.ofNat.inj h'
  · have h' : ((sizeS s : Nat) : Int) = ((sizeS (s.take a) * sizeS (s.drop a) : Nat) : Int) := by rw [q4, ← e, Int.natCast_mul, q1, q2]
    exact Int.ofNat.inj h'
set_option maxRecDepth 100000 in
theorem grow_untrue (A0 : Option Addr) (c0 : Nat) (s : List Int) (A1 : Option Addr) (c1 : Nat) (d : List Int) (ax sd : Int) (w : World) (r0 : Rd w (.slice A0 s.length c0) s) (r1 : Rd w (.slice A1 d.length c1) d) (i1 : allI d) (ht : tOk s d = false) :
    Calls Try.prog 33 #[.agg #[.slice A0 s.length c0, .slice A1 d.length c1], .int .i64 ax, .int .i64 sd] w (TPost w (growR s d ax sd)) := by
  have EV : Aside0 (growR s d ax sd = (([], []), 30)) := ⟨by unfold growR; rw [if_neg (by rw [ht]; simp)]⟩
  have HT := Aside0.mk ht
  clear ht
  have R0_a := Aside0.mk r0
  have R0_d := Aside0.mk r1
  have I1 := Aside0.mk i1
  clear r0 r1 i1
  have BW : Aside0 (Below w.heap.size w w) := ⟨Below.refl _ _⟩
  go_enter Try.func33, Try.ntmps33
  have q1 : ((w.alloc (Obj.cells #[.slice A0 s.length c0, .slice A1 d.length c1] 24)).alloc (Obj.cells #[.slice none 0 0, .slice none 0 0] 24)).cell? ⟨w.heap.size, 0, none⟩ = some (.slice A0 s.length c0) := (blk_cell (blk_fold w [Obj.cells #[.slice A0 s.length c0, .slice A1 d.length c1] 24, Obj.cells #[.slice none 0 0, .slice none 0 0] 24] 0 _ rfl) 0).trans rfl
  have q2 : ((w.alloc (Obj.cells #[.slice A0 s.length c0, .slice A1 d.length c1] 24)).alloc (Obj.cells #[.slice none 0 0, .slice none 0 0] 24)).cell? ⟨w.heap.size, 1, none⟩ = some (.slice A1 d.length c1) := (blk_cell (blk_fold w [Obj.cells #[.slice A0 s.length c0, .slice A1 d.length c1] 24, Obj.cells #[.slice none 0 0, .slice none 0 0] 24] 0 _ rfl) 1).trans rfl
  obtain ⟨wu3, hwu3⟩ : ∃ u, ((w.alloc (Obj.cells #[.slice A0 s.length c0, .slice A1 d.length c1] 24)).alloc (Obj.cells #[.slice none 0 0, .slice none 0 0] 24)) = u := ⟨_, rfl⟩
  have hbwu3 : Below w.heap.size w wu3 := by rw [← hwu3]; exact below_fold w [Obj.cells #[.slice A0 s.length c0, .slice A1 d.length c1] 24, Obj.cells #[.slice none 0 0, .slice none 0 0] 24]
  have S4 : Aside0 (wu3.heap.size = w.heap.size + 2) := ⟨by rw [← hwu3]; exact size_fold w [Obj.cells #[.slice A0 s.length c0, .slice A1 d.length c1] 24, Obj.cells #[.slice none 0 0, .slice none 0 0] 24]⟩
  have BX_t : Aside0 (wu3.heap[w.heap.size]? = some (.cells #[.slice A0 s.length c0, .slice A1 d.length c1] 24 (0, 0))) := ⟨by rw [← hwu3]; exact blk_fold w [Obj.cells #[.slice A0 s.length c0, .slice A1 d.length c1] 24, Obj.cells #[.slice none 0 0, .slice none 0 0] 24] 0 _ rfl⟩
  have BX_r : Aside0 (wu3.heap[w.heap.size + 1]? = some (.cells #[.slice none 0 0, .slice none 0 0] 24 (0, 0))) := ⟨by rw [← hwu3]; exact blk_fold w [Obj.cells #[.slice A0 s.length c0, .slice A1 d.length c1] 24, Obj.cells #[.slice none 0 0, .slice none 0 0] 24] 1 _ rfl⟩
  replace BW := Aside0.mk (below_then BW.out BW.out.size hbwu3)
  have Hwu3 := Aside0.mk hwu3
  clear hbwu3 hwu3
  go_wp2_with fail
  rw [Hwu3.out]
  clear q1 q2
  clear Hwu3
  refine (tcheck_r (d := d) HT.out (R0_a.out.below BW.out)).mono ?_
  rintro e v5 ⟨rfl, hb⟩
  replace BX_t := Aside0.mk (blk_below BX_t.out hb)
  replace BX_r := Aside0.mk (blk_below BX_r.out hb)
  replace BW := Aside0.mk (below_then BW.out BW.out.size hb)
  have S6 : Aside0 (wu3.heap.size ≤ v5.heap.size) := ⟨hb.size⟩
  clear hb
  have q7 : v5.cell? ⟨w.heap.size + 1, 0, none⟩ = some (.slice none 0 0) := (blk_cell BX_r.out 0).trans rfl
  have q8 : v5.cell? ⟨w.heap.size + 1, 1, none⟩ = some (.slice none 0 0) := (blk_cell BX_r.out 1).trans rfl
  have q9 : v5.frozen? ⟨w.heap.size + 1, 0, none⟩ = false := blk_frozen BX_r.out 0
  have q10 : v5.frozen? ⟨w.heap.size + 1, 1, none⟩ = false := blk_frozen BX_r.out 1
  go_wp2_with fail
  clear q7 q8 q9 q10
  exact end_err rfl _ w v5 _ 30 rfl rfl BW.out (by have := S4.out; have := S6.out; omega) BX_r.out _ EV.out
set_option maxRecDepth 100000 in
theorem grow_unfit1 (A0 : Option Addr) (c0 : Nat) (s : List Int) (A1 : Option Addr) (c1 : Nat) (d : List Int) (ax sd : Int) (w : World) (r0 : Rd w (.slice A0 s.length c0) s) (r1 : Rd w (.slice A1 d.length c1) d) (i1 : allI d) (ht : tOk s d = true) (hx : ax < 0) :
    Calls Try.prog 33 #[.agg #[.slice A0 s.length c0, .slice A1 d.length c1], .int .i64 ax, .int .i64 sd] w (TPost w (growR s d ax sd)) := by
  have EV : Aside0 (growR s d ax sd = (([], []), 20)) := ⟨by unfold growR; rw [if_pos ht, if_neg (by omega)]⟩
  have HT := Aside0.mk ht
  clear ht
  have d1 : decide (ax < 0) = true := by simpa using hx
  clear hx
  have R0_a := Aside0.mk r0
  have R0_d := Aside0.mk r1
  have I1 := Aside0.mk i1
  clear r0 r1 i1
  have BW : Aside0 (Below w.heap.size w w) := ⟨Below.refl _ _⟩
  go_enter Try.func33, Try.ntmps33
  have q1 : ((w.alloc (Obj.cells #[.slice A0 s.length c0, .slice A1 d.length c1] 24)).alloc (Obj.cells #[.slice none 0 0, .slice none 0 0] 24)).cell? ⟨w.heap.size, 0, none⟩ = some (.slice A0 s.length c0) := (blk_cell (blk_fold w [Obj.cells #[.slice A0 s.length c0, .slice A1 d.length c1] 24, Obj.cells #[.slice none 0 0, .slice none 0 0] 24] 0 _ rfl) 0).trans rfl
  have q2 : ((w.alloc (Obj.cells #[.slice A0 s.length c0, .slice A1 d.length c1] 24)).alloc (Obj.cells #[.slice none 0 0, .slice none 0 0] 24)).cell? ⟨w.heap.size, 1, none⟩ = some (.slice A1 d.length c1) := (blk_cell (blk_fold w [Obj.cells #[.slice A0 s.length c0, .slice A1 d.length c1] 24, Obj.cells #[.slice none 0 0, .slice none 0 0] 24] 0 _ rfl) 1).trans rfl
  obtain ⟨wu3, hwu3⟩ : ∃ u, ((w.alloc (Obj.cells #[.slice A0 s.length c0, .slice A1 d.length c1] 24)).alloc (Obj.cells #[.slice none 0 0, .slice none 0 0] 24)) = u := ⟨_, rfl⟩
  have hbwu3 : Below w.heap.size w wu3 := by rw [← hwu3]; exact below_fold w [Obj.cells #[.slice A0 s.length c0, .slice A1 d.length c1] 24, Obj.cells #[.slice none 0 0, .slice none 0 0] 24]
  have S4 : Aside0 (wu3.heap.size = w.heap.size + 2) := ⟨by rw [← hwu3]; exact size_fold w [Obj.cells #[.slice A0 s.length c0, .slice A1 d.length c1] 24, Obj.cells #[.slice none 0 0, .slice none 0 0] 24]⟩
  have BX_t : Aside0 (wu3.heap[w.heap.size]? = some (.cells #[.slice A0 s.length c0, .slice A1 d.length c1] 24 (0, 0))) := ⟨by rw [← hwu3]; exact blk_fold w [Obj.cells #[.slice A0 s.length c0, .slice A1 d.length c1] 24, Obj.cells #[.slice none 0 0, .slice none 0 0] 24] 0 _ rfl⟩
  have BX_r : Aside0 (wu3.heap[w.heap.size + 1]? = some (.cells #[.slice none 0 0, .slice none 0 0] 24 (0, 0))) := ⟨by rw [← hwu3]; exact blk_fold w [Obj.cells #[.slice A0 s.length c0, .slice A1 d.length c1] 24, Obj.cells #[.slice none 0 0, .slice none 0 0] 24] 1 _ rfl⟩
  replace BW := Aside0.mk (below_then BW.out BW.out.size hbwu3)
  have Hwu3 := Aside0.mk hwu3
  clear hbwu3 hwu3
  go_wp2_with fail
  rw [Hwu3.out]
  clear q1 q2
  clear Hwu3
  refine (tcheck_r (d := d) HT.out (R0_a.out.below BW.out)).mono ?_
  rintro e v5 ⟨rfl, hb⟩
  replace BX_t := Aside0.mk (blk_below BX_t.out hb)
  replace BX_r := Aside0.mk (blk_below BX_r.out hb)
  replace BW := Aside0.mk (below_then BW.out BW.out.size hb)
  have S6 : Aside0 (wu3.heap.size ≤ v5.heap.size) := ⟨hb.size⟩
  clear hb
  have q7 : v5.cell? ⟨w.heap.size + 1, 0, none⟩ = some (.slice none 0 0) := (blk_cell BX_r.out 0).trans rfl
  have q8 : v5.cell? ⟨w.heap.size + 1, 1, none⟩ = some (.slice none 0 0) := (blk_cell BX_r.out 1).trans rfl
  have q9 : v5.frozen? ⟨w.heap.size + 1, 0, none⟩ = false := blk_frozen BX_r.out 0
  have q10 : v5.frozen? ⟨w.heap.size + 1, 1, none⟩ = false := blk_frozen BX_r.out 1
  go_wp2_with fail
  clear q7 q8 q9 q10
  exact end_err rfl _ w v5 _ 20 rfl rfl BW.out (by have := S4.out; have := S6.out; omega) BX_r.out _ EV.out
set_option maxRecDepth 100000 in
theorem grow_unfit2 (A0 : Option Addr) (c0 : Nat) (s : List Int) (A1 : Option Addr) (c1 : Nat) (d : List Int) (ax sd : Int) (w : World) (r0 : Rd w (.slice A0 s.length c0) s) (r1 : Rd w (.slice A1 d.length c1) d) (i1 : allI d) (ht : tOk s d = true) (hx : (s.length : Int) < ax) :
    Calls Try.prog 33 #[.agg #[.slice A0 s.length c0, .slice A1 d.length c1], .int .i64 ax, .int .i64 sd] w (TPost w (growR s d ax sd)) := by
  have EV : Aside0 (growR s d ax sd = (([], []), 20)) := ⟨by unfold growR; rw [if_pos ht, if_neg (by omega)]⟩
  have HT := Aside0.mk ht
  clear ht
  have d1 : decide (ax < 0) = false := by simp; omega
  have d2 : decide ((s.length : Int) < ax) = true := by simpa using hx
  clear hx
  have R0_a := Aside0.mk r0
  have R0_d := Aside0.mk r1
  have I1 := Aside0.mk i1
  clear r0 r1 i1
  have BW : Aside0 (Below w.heap.size w w) := ⟨Below.refl _ _⟩
  go_enter Try.func33, Try.ntmps33
  have q1 : ((w.alloc (Obj.cells #[.slice A0 s.length c0, .slice A1 d.length c1] 24)).alloc (Obj.cells #[.slice none 0 0, .slice none 0 0] 24)).cell? ⟨w.heap.size, 0, none⟩ = some (.slice A0 s.length c0) := (blk_cell (blk_fold w [Obj.cells #[.slice A0 s.length c0, .slice A1 d.length c1] 24, Obj.cells #[.slice none 0 0, .slice none 0 0] 24] 0 _ rfl) 0).trans rfl
  have q2 : ((w.alloc (Obj.cells #[.slice A0 s.length c0, .slice A1 d.length c1] 24)).alloc (Obj.cells #[.slice none 0 0, .slice none 0 0] 24)).cell? ⟨w.heap.size, 1, none⟩ = some (.slice A1 d.length c1) := (blk_cell (blk_fold w [Obj.cells #[.slice A0 s.length c0, .slice A1 d.length c1] 24, Obj.cells #[.slice none 0 0, .slice none 0 0] 24] 0 _ rfl) 1).trans rfl
  obtain ⟨wu3, hwu3⟩ : ∃ u, ((w.alloc (Obj.cells #[.slice A0 s.length c0, .slice A1 d.length c1] 24)).alloc (Obj.cells #[.slice none 0 0, .slice none 0 0] 24)) = u := ⟨_, rfl⟩
  have hbwu3 : Below w.heap.size w wu3 := by rw [← hwu3]; exact below_fold w [Obj.cells #[.slice A0 s.length c0, .slice A1 d.length c1] 24, Obj.cells #[.slice none 0 0, .slice none 0 0] 24]
  have S4 : Aside0 (wu3.heap.size = w.heap.size + 2) := ⟨by rw [← hwu3]; exact size_fold w [Obj.cells #[.slice A0 s.length c0, .slice A1 d.length c1] 24, Obj.cells #[.slice none 0 0, .slice none 0 0] 24]⟩
  have BX_t : Aside0 (wu3.heap[w.heap.size]? = some (.cells #[.slice A0 s.length c0, .slice A1 d.length c1] 24 (0, 0))) := ⟨by rw [← hwu3]; exact blk_fold w [Obj.cells #[.slice A0 s.length c0, .slice A1 d.length c1] 24, Obj.cells #[.slice none 0 0, .slice none 0 0] 24] 0 _ rfl⟩
  have BX_r : Aside0 (wu3.heap[w.heap.size + 1]? = some (.cells #[.slice none 0 0, .slice none 0 0] 24 (0, 0))) := ⟨by rw [← hwu3]; exact blk_fold w [Obj.cells #[.slice A0 s.length c0, .slice A1 d.length c1] 24, Obj.cells #[.slice none 0 0, .slice none 0 0] 24] 1 _ rfl⟩
  replace BW := Aside0.mk (below_then BW.out BW.out.size hbwu3)
  have Hwu3 := Aside0.mk hwu3
  clear hbwu3 hwu3
  go_wp2_with fail
  rw [Hwu3.out]
  clear q1 q2
  clear Hwu3
  refine (tcheck_r (d := d) HT.out (R0_a.out.below BW.out)).mono ?_
  rintro e v5 ⟨rfl, hb⟩
  replace BX_t := Aside0.mk (blk_below BX_t.out hb)
  replace BX_r := Aside0.mk (blk_below BX_r.out hb)
  replace BW := Aside0.mk (below_then BW.out BW.out.size hb)
  have S6 : Aside0 (wu3.heap.size ≤ v5.heap.size) := ⟨hb.size⟩
  clear hb
  have q7 : v5.cell? ⟨w.heap.size, 0, none⟩ = some (.slice A0 s.length c0) := (blk_cell BX_t.out 0).trans rfl
  have q8 : v5.cell? ⟨w.heap.size + 1, 0, none⟩ = some (.slice none 0 0) := (blk_cell BX_r.out 0).trans rfl
  have q9 : v5.cell? ⟨w.heap.size + 1, 1, none⟩ = some (.slice none 0 0) := (blk_cell BX_r.out 1).trans rfl
  have q10 : v5.frozen? ⟨w.heap.size + 1, 0, none⟩ = false := blk_frozen BX_r.out 0
  have q11 : v5.frozen? ⟨w.heap.size + 1, 1, none⟩ = false := blk_frozen BX_r.out 1
  go_wp2_with fail
  clear q7 q8 q9 q10 q11
  exact end_err rfl _ w v5 _ 20 rfl rfl BW.out (by have := S4.out; have := S6.out; omega) BX_r.out _ EV.out
set_option maxRecDepth 100000 in
theorem grow_bad (A0 : Option Addr) (c0 : Nat) (s : List Int) (A1 : Option Addr) (c1 : Nat) (d : List Int) (a : Nat) (sd : Int) (w : World) (r0 : Rd w (.slice A0 s.length c0) s) (r1 : Rd w (.slice A1 d.length c1) d) (i1 : allI d) (ht : tOk s d = true) (ha : a ≤ s.length) (hb : shapeOk (insL s a sd) = false) :
    Calls Try.prog 33 #[.agg #[.slice A0 s.length c0, .slice A1 d.length c1], .int .i64 (a : Nat), .int .i64 sd] w (TPost w (growR s d (a : Nat) sd)) := by
  have EV : Aside0 (growR s d (a : Nat) sd = (([], []), 20)) := ⟨by unfold growR; rw [if_pos ht, if_pos ⟨by omega, by omega⟩, if_neg (by simp only [Int.toNat_natCast]; rw [hb]; simp)]⟩
  have HB := Aside0.mk hb
  clear hb
  have d1 : decide ((a : Int) < 0) = false := by simp
  have d2 : decide ((s.length : Int) < (a : Int)) = false := by simp; omega
  have d3 : decide (s.length < a) = false := by simp; omega
  have hsl := shapeOk_len ((tOk_iff _ _).1 ht).1
  have HA := Aside0.mk (And.intro ha hsl)
  have HT := Aside0.mk ht
  clear ha ht hsl
  have R0_a := Aside0.mk r0
  have R0_d := Aside0.mk r1
  have I1 := Aside0.mk i1
  clear r0 r1 i1
  have BW : Aside0 (Below w.heap.size w w) := ⟨Below.refl _ _⟩
  go_enter Try.func33, Try.ntmps33
  have q1 : ((w.alloc (Obj.cells #[.slice A0 s.length c0, .slice A1 d.length c1] 24)).alloc (Obj.cells #[.slice none 0 0, .slice none 0 0] 24)).cell? ⟨w.heap.size, 0, none⟩ = some (.slice A0 s.length c0) := (blk_cell (blk_fold w [Obj.cells #[.slice A0 s.length c0, .slice A1 d.length c1] 24, Obj.cells #[.slice none 0 0, .slice none 0 0] 24] 0 _ rfl) 0).trans rfl
  have q2 : ((w.alloc (Obj.cells #[.slice A0 s.length c0, .slice A1 d.length c1] 24)).alloc (Obj.cells #[.slice none 0 0, .slice none 0 0] 24)).cell? ⟨w.heap.size, 1, none⟩ = some (.slice A1 d.length c1) := (blk_cell (blk_fold w [Obj.cells #[.slice A0 s.length c0, .slice A1 d.length c1] 24, Obj.cells #[.slice none 0 0, .slice none 0 0] 24] 0 _ rfl) 1).trans rfl
  obtain ⟨wu3, hwu3⟩ : ∃ u, ((w.alloc (Obj.cells #[.slice A0 s.length c0, .slice A1 d.length c1] 24)).alloc (Obj.cells #[.slice none 0 0, .slice none 0 0] 24)) = u := ⟨_, rfl⟩
  have hbwu3 : Below w.heap.size w wu3 := by rw [← hwu3]; exact below_fold w [Obj.cells #[.slice A0 s.length c0, .slice A1 d.length c1] 24, Obj.cells #[.slice none 0 0, .slice none 0 0] 24]
  have S4 : Aside0 (wu3.heap.size = w.heap.size + 2) := ⟨by rw [← hwu3]; exact size_fold w [Obj.cells #[.slice A0 s.length c0, .slice A1 d.length c1] 24, Obj.cells #[.slice none 0 0, .slice none 0 0] 24]⟩
  have BX_t : Aside0 (wu3.heap[w.heap.size]? = some (.cells #[.slice A0 s.length c0, .slice A1 d.length c1] 24 (0, 0))) := ⟨by rw [← hwu3]; exact blk_fold w [Obj.cells #[.slice A0 s.length c0, .slice A1 d.length c1] 24, Obj.cells #[.slice none 0 0, .slice none 0 0] 24] 0 _ rfl⟩
  have BX_r : Aside0 (wu3.heap[w.heap.size + 1]? = some (.cells #[.slice none 0 0, .slice none 0 0] 24 (0, 0))) := ⟨by rw [← hwu3]; exact blk_fold w [Obj.cells #[.slice A0 s.length c0, .slice A1 d.length c1] 24, Obj.cells #[.slice none 0 0, .slice none 0 0] 24] 1 _ rfl⟩
  replace BW := Aside0.mk (below_then BW.out BW.out.size hbwu3)
  have Hwu3 := Aside0.mk hwu3
  clear hbwu3 hwu3
  go_wp2_with fail
  rw [Hwu3.out]
  clear q1 q2
  clear Hwu3
  refine (tcheck_r (d := d) HT.out (R0_a.out.below BW.out)).mono ?_
  rintro e v5 ⟨rfl, hb⟩
  replace BX_t := Aside0.mk (blk_below BX_t.out hb)
  replace BX_r := Aside0.mk (blk_below BX_r.out hb)
  replace BW := Aside0.mk (below_then BW.out BW.out.size hb)
  have S6 : Aside0 (wu3.heap.size ≤ v5.heap.size) := ⟨hb.size⟩
  clear hb
  have q7 : v5.cell? ⟨w.heap.size, 0, none⟩ = some (.slice A0 s.length c0) := (blk_cell BX_t.out 0).trans rfl
  go_wp2_with fail
  clear q7
  refine (slices_Clone_int_int.calls A0 c0 s s v5 (R0_a.out.below BW.out).c.1 (R0_a.out.below BW.out).c.2 (by unfold slices_Clone_int_int.f; rw [if_pos (by have := HA.out.2; omega)])).mono ?_
  rintro e v1 ⟨v0, rfl, hr, hb1⟩
  have OW := Aside0.mk (ofR hr)
  obtain ⟨Av, cv, rfl⟩ := own_slice OW.out
  have HB1 := Aside0.mk hb1
  clear hr hb1
  go_wp2_with fail
  have OW2 : Aside0 ((v1.alloc (Obj.cells #[.int .i64 sd] 3)).ownsRow v5.heap.size 3 1 (.slice Av s.length cv) s.length (nums .i64 s)) := ⟨pw_own_below OW.out (below_alloc (Below.refl _ _) _)⟩
  refine (ins_own a sd (v1.alloc (Obj.cells #[.int .i64 sd] 3)) OW2.out HA.out.1 (by have := HA.out.2; omega) (by have := HB1.out.size; simp only [World.size_alloc]; omega) (blk_new _ _) (fun g_ hA => by subst hA; have := own_lt OW.out g_ rfl; omega)).mono ?_
  rintro e v2 ⟨Ae, ce', rfl, ho, hb2⟩
  have hb := (HB1.out.trans ((below_alloc (Below.refl _ _) _).mono HB1.out.size)).trans hb2
  replace BX_t := Aside0.mk (blk_below BX_t.out hb)
  replace BX_r := Aside0.mk (blk_below BX_r.out hb)
  replace BW := Aside0.mk (below_then BW.out BW.out.size hb)
  have S8 : Aside0 (v5.heap.size ≤ v2.heap.size) := ⟨hb.size⟩
  have OWN_s := Aside0.mk ho
  clear hb hb2 ho OW OW2 HB1
  go_wp2_with fail
  refine (full_bad Ae ce' (insL s a sd) 0 _ (Rd.of_own OWN_s.out).c.1 HB.out).mono ?_
  rintro e v9 ⟨rfl, hb⟩
  replace BX_t := Aside0.mk (blk_below BX_t.out hb)
  replace BX_r := Aside0.mk (blk_below BX_r.out hb)
  replace OWN_s := Aside0.mk (own_keep OWN_s.out (fun g_ _ hg_ => hb.block g_ hg_))
  replace BW := Aside0.mk (below_then BW.out BW.out.size hb)
  have S10 : Aside0 (v2.heap.size ≤ v9.heap.size) := ⟨hb.size⟩
  clear hb
  have q11 : (v9.alloc (Obj.cells #[.slice none 0 0, .slice none 0 0] 24)).cell? ⟨w.heap.size + 1, 0, none⟩ = some (.slice none 0 0) := (blk_cell (blk_below BX_r.out (below_fold v9 [Obj.cells #[.slice none 0 0, .slice none 0 0] 24])) 0).trans rfl
  have q12 : (v9.alloc (Obj.cells #[.slice none 0 0, .slice none 0 0] 24)).cell? ⟨w.heap.size + 1, 1, none⟩ = some (.slice none 0 0) := (blk_cell (blk_below BX_r.out (below_fold v9 [Obj.cells #[.slice none 0 0, .slice none 0 0] 24])) 1).trans rfl
  have q13 : (v9.alloc (Obj.cells #[.slice none 0 0, .slice none 0 0] 24)).frozen? ⟨w.heap.size + 1, 0, none⟩ = false := blk_frozen (blk_below BX_r.out (below_fold v9 [Obj.cells #[.slice none 0 0, .slice none 0 0] 24])) 0
  have q14 : (v9.alloc (Obj.cells #[.slice none 0 0, .slice none 0 0] 24)).frozen? ⟨w.heap.size + 1, 1, none⟩ = false := blk_frozen (blk_below BX_r.out (below_fold v9 [Obj.cells #[.slice none 0 0, .slice none 0 0] 24])) 1
  obtain ⟨wu15, hwu15⟩ : ∃ u, (v9.alloc (Obj.cells #[.slice none 0 0, .slice none 0 0] 24)) = u := ⟨_, rfl⟩
  have hbwu15 : Below v9.heap.size v9 wu15 := by rw [← hwu15]; exact below_fold v9 [Obj.cells #[.slice none 0 0, .slice none 0 0] 24]
  have S16 : Aside0 (wu15.heap.size = v9.heap.size + 1) := ⟨by rw [← hwu15]; exact size_fold v9 [Obj.cells #[.slice none 0 0, .slice none 0 0] 24]⟩
  replace BX_t := Aside0.mk (blk_below BX_t.out hbwu15)
  replace BX_r := Aside0.mk (blk_below BX_r.out hbwu15)
  have BX_o : Aside0 (wu15.heap[v9.heap.size]? = some (.cells #[.slice none 0 0, .slice none 0 0] 24 (0, 0))) := ⟨by rw [← hwu15]; exact blk_fold v9 [Obj.cells #[.slice none 0 0, .slice none 0 0] 24] 0 _ rfl⟩
  replace OWN_s := Aside0.mk (own_keep OWN_s.out (fun g_ _ hg_ => hbwu15.block g_ hg_))
  replace BW := Aside0.mk (below_then BW.out BW.out.size hbwu15)
  have Hwu15 := Aside0.mk hwu15
  clear hbwu15 hwu15
  go_wp2_with fail
  rw [Hwu15.out]
  clear q11 q12 q13 q14
  clear Hwu15
  exact end_err rfl _ w wu15 _ 20 rfl rfl BW.out (by have := S4.out; have := S6.out; have := S8.out; have := S10.out; have := S16.out; omega) BX_r.out _ EV.out
set_option maxRecDepth 100000 in
theorem grow_ok (A0 : Option Addr) (c0 : Nat) (s : List Int) (A1 : Option Addr) (c1 : Nat) (d : List Int) (a : Nat) (sd : Int) (w : World) (r0 : Rd w (.slice A0 s.length c0) s) (r1 : Rd w (.slice A1 d.length c1) d) (i1 : allI d) (ht : tOk s d = true) (ha : a ≤ s.length) (hb : shapeOk (insL s a sd) = true) :
    Calls Try.prog 33 #[.agg #[.slice A0 s.length c0, .slice A1 d.length c1], .int .i64 (a : Nat), .int .i64 sd] w (TPost w (growR s d (a : Nat) sd)) := by
  have EV : Aside0 (growR s d (a : Nat) sd = ((insL s a sd, growP d (sizeS (insL s a sd)) sd.toNat (sizeS (s.drop a)) d.length), 0)) := ⟨by unfold growR; rw [if_pos ht, if_pos ⟨by omega, by omega⟩]; simp only [Int.toNat_natCast]; rw [if_pos hb]⟩
  have hs := ((tOk_iff _ _).1 ht).1
  have hdl := ((tOk_iff _ _).1 ht).2
  obtain ⟨q1, q2, q3, q4, q5⟩ := ins_ok hs ha hb
  have h64 := sizeS_le (insL s a sd)
  have h64' := sizeS_le s
  have hbh64 := sizeS_le (s.drop a)
  have hdp := sizeS_pos hs
  have C1 := C_take r0.c.1 a ha
  have hc0 := r0.c.2
  obtain ⟨n, rfl⟩ := Int.eq_ofNat_of_zero_le (show 0 ≤ sd by omega)
  simp only [Int.toNat_natCast] at EV q3
  obtain ⟨bh, hbh⟩ : ∃ x, sizeS (s.drop a) = x := ⟨_, rfl⟩
  obtain ⟨ah, hah⟩ : ∃ x, sizeS (s.take a) = x := ⟨_, rfl⟩
  obtain ⟨M, hM⟩ : ∃ x, sizeS (insL s a (n : Int)) = x := ⟨_, rfl⟩
  rw [hM, hbh] at EV
  rw [hM] at q3 h64
  rw [hah, hbh] at q3 q4
  rw [hbh] at q5 hbh64
  have hLT : ∀ p i, p < d.length → i < n → laneAt n bh p i < M := fun p i hp hi => by rw [q3]; exact lane_lt (by rw [← q4, ← hdl]; exact hp) hi q5
  have FACT := Aside0.mk (And.intro h64 (And.intro (show 1 ≤ n by omega) (And.intro (show n ≤ 16 by omega) (And.intro q5 (And.intro hbh64 (And.intro (show 1 ≤ d.length by omega) (show d.length ≤ 64 by omega)))))))
  have LT := Aside0.mk hLT
  have HM := Aside0.mk hM
  have HBH := Aside0.mk hbh
  have HAH := Aside0.mk hah
  have HB := Aside0.mk hb
  clear hs hdl q1 q2 q3 q4 q5 h64 h64' hbh64 hdp hbh hah hM hLT hb C1 hc0
  have d1 : decide ((a : Int) < 0) = false := by simp
  have d2 : decide ((s.length : Int) < (a : Int)) = false := by simp; omega
  have d3 : decide (s.length < a) = false := by simp; omega
  have hsl := shapeOk_len ((tOk_iff _ _).1 ht).1
  have HA := Aside0.mk (And.intro ha hsl)
  have HT := Aside0.mk ht
  clear ha ht hsl
  have R0_a := Aside0.mk r0
  have R0_d := Aside0.mk r1
  have I1 := Aside0.mk i1
  clear r0 r1 i1
  have BW : Aside0 (Below w.heap.size w w) := ⟨Below.refl _ _⟩
  go_enter Try.func33, Try.ntmps33
  have q1 : ((w.alloc (Obj.cells #[.slice A0 s.length c0, .slice A1 d.length c1] 24)).alloc (Obj.cells #[.slice none 0 0, .slice none 0 0] 24)).cell? ⟨w.heap.size, 0, none⟩ = some (.slice A0 s.length c0) := (blk_cell (blk_fold w [Obj.cells #[.slice A0 s.length c0, .slice A1 d.length c1] 24, Obj.cells #[.slice none 0 0, .slice none 0 0] 24] 0 _ rfl) 0).trans rfl
  have q2 : ((w.alloc (Obj.cells #[.slice A0 s.length c0, .slice A1 d.length c1] 24)).alloc (Obj.cells #[.slice none 0 0, .slice none 0 0] 24)).cell? ⟨w.heap.size, 1, none⟩ = some (.slice A1 d.length c1) := (blk_cell (blk_fold w [Obj.cells #[.slice A0 s.length c0, .slice A1 d.length c1] 24, Obj.cells #[.slice none 0 0, .slice none 0 0] 24] 0 _ rfl) 1).trans rfl
  obtain ⟨wu3, hwu3⟩ : ∃ u, ((w.alloc (Obj.cells #[.slice A0 s.length c0, .slice A1 d.length c1] 24)).alloc (Obj.cells #[.slice none 0 0, .slice none 0 0] 24)) = u := ⟨_, rfl⟩
  have hbwu3 : Below w.heap.size w wu3 := by rw [← hwu3]; exact below_fold w [Obj.cells #[.slice A0 s.length c0, .slice A1 d.length c1] 24, Obj.cells #[.slice none 0 0, .slice none 0 0] 24]
  have S4 : Aside0 (wu3.heap.size = w.heap.size + 2) := ⟨by rw [← hwu3]; exact size_fold w [Obj.cells #[.slice A0 s.length c0, .slice A1 d.length c1] 24, Obj.cells #[.slice none 0 0, .slice none 0 0] 24]⟩
  have BX_t : Aside0 (wu3.heap[w.heap.size]? = some (.cells #[.slice A0 s.length c0, .slice A1 d.length c1] 24 (0, 0))) := ⟨by rw [← hwu3]; exact blk_fold w [Obj.cells #[.slice A0 s.length c0, .slice A1 d.length c1] 24, Obj.cells #[.slice none 0 0, .slice none 0 0] 24] 0 _ rfl⟩
  have BX_r : Aside0 (wu3.heap[w.heap.size + 1]? = some (.cells #[.slice none 0 0, .slice none 0 0] 24 (0, 0))) := ⟨by rw [← hwu3]; exact blk_fold w [Obj.cells #[.slice A0 s.length c0, .slice A1 d.length c1] 24, Obj.cells #[.slice none 0 0, .slice none 0 0] 24] 1 _ rfl⟩
  replace BW := Aside0.mk (below_then BW.out BW.out.size hbwu3)
  have Hwu3 := Aside0.mk hwu3
  clear hbwu3 hwu3
  go_wp2_with fail
  rw [Hwu3.out]
  clear q1 q2
  clear Hwu3
  refine (tcheck_r (d := d) HT.out (R0_a.out.below BW.out)).mono ?_
  rintro e v5 ⟨rfl, hb⟩
  replace BX_t := Aside0.mk (blk_below BX_t.out hb)
  replace BX_r := Aside0.mk (blk_below BX_r.out hb)
  replace BW := Aside0.mk (below_then BW.out BW.out.size hb)
  have S6 : Aside0 (wu3.heap.size ≤ v5.heap.size) := ⟨hb.size⟩
  clear hb
  have q7 : v5.cell? ⟨w.heap.size, 0, none⟩ = some (.slice A0 s.length c0) := (blk_cell BX_t.out 0).trans rfl
  go_wp2_with fail
  clear q7
  refine (slices_Clone_int_int.calls A0 c0 s s v5 (R0_a.out.below BW.out).c.1 (R0_a.out.below BW.out).c.2 (by unfold slices_Clone_int_int.f; rw [if_pos (by have := HA.out.2; omega)])).mono ?_
  rintro e v1 ⟨v0, rfl, hr, hb1⟩
  have OW := Aside0.mk (ofR hr)
  obtain ⟨Av, cv, rfl⟩ := own_slice OW.out
  have HB1 := Aside0.mk hb1
  clear hr hb1
  go_wp2_with fail
  have OW2 : Aside0 ((v1.alloc (Obj.cells #[.int .i64 (n : Int)] 3)).ownsRow v5.heap.size 3 1 (.slice Av s.length cv) s.length (nums .i64 s)) := ⟨pw_own_below OW.out (below_alloc (Below.refl _ _) _)⟩
  refine (ins_own a (n : Int) (v1.alloc (Obj.cells #[.int .i64 (n : Int)] 3)) OW2.out HA.out.1 (by have := HA.out.2; omega) (by have := HB1.out.size; simp only [World.size_alloc]; omega) (blk_new _ _) (fun g_ hA => by subst hA; have := own_lt OW.out g_ rfl; omega)).mono ?_
  rintro e v2 ⟨Ae, ce', rfl, ho, hb2⟩
  have hb := (HB1.out.trans ((below_alloc (Below.refl _ _) _).mono HB1.out.size)).trans hb2
  replace BX_t := Aside0.mk (blk_below BX_t.out hb)
  replace BX_r := Aside0.mk (blk_below BX_r.out hb)
  replace BW := Aside0.mk (below_then BW.out BW.out.size hb)
  have S8 : Aside0 (v5.heap.size ≤ v2.heap.size) := ⟨hb.size⟩
  have OWN_s := Aside0.mk ho
  clear hb hb2 ho OW OW2 HB1
  go_wp2_with fail
  refine (full_ok Ae ce' (insL s a (n : Int)) 0 v2 (Rd.of_own OWN_s.out).c.1 (Rd.of_own OWN_s.out).c.2 HB.out).mono ?_
  rintro e v3 ⟨v0, w1, Bf, rfl, hB1, hB2, h0, h1, hb⟩
  obtain ⟨As, cs, rfl, _, _⟩ := h0 v3 (fun _ _ _ => rfl)
  obtain ⟨Ad, cd, rfl⟩ := own_slice h1
  rw [HM.out] at h1 ⊢
  have hlr : (List.replicate M (0 : Int)).length = M := by simp
  obtain ⟨gd, rfl, hg1, hg2⟩ := own_some (s := List.replicate M (0 : Int)) (by rw [hlr]; exact h1) (by rw [hlr]; have h := LT.out 0 0 (by have := FACT.out; omega) (by have := FACT.out; omega); omega)
  have RS := Aside0.mk h0
  replace BX_t := Aside0.mk (blk_below BX_t.out hb)
  replace BX_r := Aside0.mk (blk_below BX_r.out hb)
  replace OWN_s := Aside0.mk (own_keep OWN_s.out (fun g_ _ hg_ => hb.block g_ hg_))
  replace BW := Aside0.mk (below_then BW.out BW.out.size hb)
  have S9 : Aside0 (v2.heap.size ≤ v3.heap.size) := ⟨hb.size⟩
  have SB : Aside0 (v2.heap.size ≤ Bf ∧ Bf ≤ gd ∧ gd < v3.heap.size) := ⟨⟨hB1, hg1, hg2⟩⟩
  have OWN_d := Aside0.mk h1
  clear hb h0 h1 hB1 hB2 hg1 hg2 hlr OWN_s
  have KP_v3 : Aside0 (Kp [gd] v3 v3) := ⟨Kp.refl _ _⟩
  obtain ⟨wu10, hwu10⟩ : ∃ u, (v3.alloc (Obj.cells #[.slice As (insL s a (n : Int)).length cs, .slice (some ⟨gd, 0, none⟩) M cd] 24)) = u := ⟨_, rfl⟩
  have hbwu10 : Below v3.heap.size v3 wu10 := by rw [← hwu10]; exact below_fold v3 [Obj.cells #[.slice As (insL s a (n : Int)).length cs, .slice (some ⟨gd, 0, none⟩) M cd] 24]
  have S11 : Aside0 (wu10.heap.size = v3.heap.size + 1) := ⟨by rw [← hwu10]; exact size_fold v3 [Obj.cells #[.slice As (insL s a (n : Int)).length cs, .slice (some ⟨gd, 0, none⟩) M cd] 24]⟩
  replace BX_t := Aside0.mk (blk_below BX_t.out hbwu10)
  replace BX_r := Aside0.mk (blk_below BX_r.out hbwu10)
  replace KP_v3 := Aside0.mk (KP_v3.out.below hbwu10)
  have BX_o : Aside0 (wu10.heap[v3.heap.size]? = some (.cells #[.slice As (insL s a (n : Int)).length cs, .slice (some ⟨gd, 0, none⟩) M cd] 24 (0, 0))) := ⟨by rw [← hwu10]; exact blk_fold v3 [Obj.cells #[.slice As (insL s a (n : Int)).length cs, .slice (some ⟨gd, 0, none⟩) M cd] 24] 0 _ rfl⟩
  replace OWN_d := Aside0.mk (own_keep OWN_d.out (fun g_ _ hg_ => hbwu10.block g_ hg_))
  replace BW := Aside0.mk (below_then BW.out BW.out.size hbwu10)
  have Hwu10 := Aside0.mk hwu10
  clear hbwu10 hwu10
  go_wp2_with fail
  rw [Hwu10.out]
  clear Hwu10
  have qt0 : wu10.cell? ⟨w.heap.size, 0, none⟩ = some (.slice A0 s.length c0) := (blk_cell BX_t.out 0).trans rfl
  obtain ⟨ii, hii, _, hi1, _⟩ := info_parts infoInt
  obtain ⟨hs1, hs2, _⟩ := print_take_int (P := Try.prog) (k := .i64) 22 3 Try.underlying22 hii hi1 A0 c0 s (a : Int) (by omega) (by have := HA.out.1; omega) (R0_a.out.below BW.out).c.2
  obtain ⟨A2, hs3, hs4, _⟩ := print_cut_int (P := Try.prog) (k := .i64) 22 3 Try.underlying22 hii hi1 A0 c0 s (a : Int) (by omega) (by have := HA.out.1; omega) (R0_a.out.below BW.out).c.2
  simp only [Int.toNat_natCast] at hs1 hs2 hs3 hs4
  have C1 : Aside0 (∀ W, Below w.heap.size w W → Kd.C (Kd.int .i64) W A0 (s.take a).length (s.take a)) := ⟨fun W hW => toC (hs2 W (ofC (R0_a.out.below hW).c.1))⟩
  have C2 : Aside0 (∀ W, Below w.heap.size w W → Kd.C (Kd.int .i64) W A2 (s.drop a).length (s.drop a)) := ⟨fun W hW => toC (hs4 W (ofC (R0_a.out.below hW).c.1))⟩
  have SA : Aside0 (∀ W, Below w.heap.size w W → Calls Try.prog 44 #[.slice A0 (s.take a).length c0] W fun e w' => e = .returned (.int .i64 (ah : Nat)) ∧ W = w') := ⟨fun W hW => by rw [← HAH.out]; exact size_sh A0 c0 (s.take a) W (C1.out W hW)⟩
  have SB2 : Aside0 (∀ W, Below w.heap.size w W → Calls Try.prog 44 #[.slice A2 (s.drop a).length (c0 - a)] W fun e w' => e = .returned (.int .i64 (bh : Nat)) ∧ W = w') := ⟨fun W hW => by rw [← HBH.out]; exact size_sh A2 (c0 - a) (s.drop a) W (C2.out W hW)⟩
  obtain ⟨l1, hl1⟩ : ∃ x, (s.take a).length = x := ⟨_, rfl⟩
  obtain ⟨l2, hl2⟩ : ∃ x, (s.drop a).length = x := ⟨_, rfl⟩
  rw [hl1] at hs1 SA
  rw [hl2] at hs3 SB2
  clear hii hi1 hs2 hs4 C1 C2 hl1 hl2
  have BW1 := BW.out.drew
  have BW2 := (below_alloc BW.out (Obj.cells #[.int .i64 0, .int .i64 0, .int .i64 0] 91)).drew
  have BW3 := (below_alloc BW.out.drew (Obj.cells #[.int .i64 0, .int .i64 0, .int .i64 0] 91))
  go_region_held3 (fun w' => w'.cell? ⟨w.heap.size, 0, none⟩ = some (.slice A0 s.length c0)) (first | (exact qt0) | (exact pw_cell_below (below_alloc (Below.refl _ _) _) qt0))
    (first | ((with_reducible refine (SA.out _ (by first | exact BW1 | exact BW2 | exact BW3)).mono ?_); rintro e w' ⟨rfl, rfl⟩) | ((with_reducible refine (SB2.out _ (by first | exact BW1 | exact BW2 | exact BW3)).mono ?_); rintro e w' ⟨rfl, rfl⟩))
  all_goals
    obtain ⟨wl, hwl⟩ : ∃ u, (wu10.alloc (Obj.cells #[.int .i64 ah, .int .i64 n, .int .i64 bh] 91)).drew = u := ⟨_, rfl⟩
    show Exit.then _ _ _ _ (wu10.alloc (Obj.cells #[.int .i64 ah, .int .i64 n, .int .i64 bh] 91)).drew
    rw [hwl]
    have hb : Below wu10.heap.size wu10 wl := by rw [← hwl]; exact (below_alloc (Below.refl _ _) _).drew
    have BX_l : Aside0 (wl.heap[wu10.heap.size]? = some (.cells #[.int .i64 ah, .int .i64 n, .int .i64 bh] 91 (0, 0))) := ⟨by rw [← hwl]; exact blk_new _ _⟩
    have SLW : Aside0 (wl.heap.size = wu10.heap.size + 1) := ⟨by rw [← hwl]; exact Array.size_push _⟩
    clear hwl BW1 BW2 BW3 qt0 hs1 hs3 SA SB2
    replace BX_t := Aside0.mk (blk_below BX_t.out hb)
    replace BX_r := Aside0.mk (blk_below BX_r.out hb)
    replace BX_o := Aside0.mk (blk_below BX_o.out hb)
    replace KP_v3 := Aside0.mk (KP_v3.out.below hb)
    replace OWN_d := Aside0.mk (own_keep OWN_d.out (fun g_ _ hg_ => hb.block g_ hg_))
    replace BW := Aside0.mk (below_then BW.out BW.out.size hb)
    have S12 : Aside0 (wu10.heap.size ≤ wl.heap.size) := ⟨hb.size⟩
    clear hb
    obtain ⟨ad1, rfl, _⟩ := Kd.at_int (R0_d.out.below BW.out).c.1 0 (by omega) (by have := FACT.out; omega)
    have q13 : wl.cell? ⟨w.heap.size, 1, none⟩ = some (.slice (some ad1) d.length c1) := (blk_cell BX_t.out 1).trans rfl
    go_wp2_with fail
    clear q13
    go_loopg [58] (d.length) (fun g_ y58 wr => ∃ (k : Nat), y58 = .int .i64 k ∧ Aside0 (Kp [gd] wl wr) ∧ Aside0 (Below w.heap.size w wr) ∧ Aside0 (wr.ownsRow Bf 3 1 (.slice (some ⟨gd, 0, none⟩) M cd) M (nums .i64 (growP d M n bh k))) ∧ Aside0 (k ≤ d.length ∧ g_ = d.length - k))
    case atStart => exact ⟨0, rfl, ⟨Kp.refl _ _⟩, BW, OWN_d, ⟨Nat.zero_le _, (Nat.sub_zero _).symm⟩⟩
    case round =>
      obtain ⟨k, rfl, KPL, BWL, OWNL, HAk⟩ := hrel
      obtain ⟨w4, rfl⟩ : ∃ x, x = wr := ⟨_, rfl⟩
      obtain ⟨hlek, hgk⟩ := HAk.out
      clear HAk
      replace OWN_d := OWNL
      clear OWNL
      replace BX_t := Aside0.mk (KPL.out.blk BX_t.out (by simp only [List.mem_singleton]; have := S4.out; have := S6.out; have := S8.out; have := S9.out; have := SB.out; have := S11.out; have := S12.out; have := SLW.out; omega))
      replace BX_r := Aside0.mk (KPL.out.blk BX_r.out (by simp only [List.mem_singleton]; have := S4.out; have := S6.out; have := S8.out; have := S9.out; have := SB.out; have := S11.out; have := S12.out; have := SLW.out; omega))
      replace BX_o := Aside0.mk (KPL.out.blk BX_o.out (by simp only [List.mem_singleton]; have := S4.out; have := S6.out; have := S8.out; have := S9.out; have := SB.out; have := S11.out; have := S12.out; have := SLW.out; omega))
      replace BX_l := Aside0.mk (KPL.out.blk BX_l.out (by simp only [List.mem_singleton]; have := S4.out; have := S6.out; have := S8.out; have := S9.out; have := SB.out; have := S11.out; have := S12.out; have := SLW.out; omega))
      replace KP_v3 := Aside0.mk (KP_v3.out.trans KPL.out (fun g_ hg_ => .inl hg_))
      replace BW := BWL
      clear BWL
      have S14 : Aside0 (wl.heap.size ≤ w4.heap.size) := ⟨KPL.out.1⟩
      have KP_wl := KPL
      clear KPL
      obtain ⟨f1, f2, f3, f4, f5, f6, f7⟩ := FACT.out
      by_cases hltk : k < d.length
      case pos =>
        have c1_k : decide ((k : Int) < (d.length : Int)) = true := by simpa using hltk
        have c2_k : decide (k < d.length) = true := by simpa using hltk
        have PW : IntKind.i64.wrap ((k : Int) + 1) = ((k + 1 : Nat) : Int) := by rw [wrap_in _ ⟨by omega, by omega⟩]; omega
        obtain ⟨x, hx⟩ : ∃ x, rd d (k : Nat) = x := ⟨_, rfl⟩
        obtain ⟨_, hada, hcx⟩ := Kd.at_int (R0_d.out.below BW.out).c.1 (k : Int) (by omega) (by omega)
        cases hada
        simp only [Int.toNat_natCast] at hcx
        rw [hx] at hcx
        have HX := Aside0.mk hx
        have HPK := Aside0.mk (And.intro hgk hltk)
        clear hgk hlek hx
        go_wp2_with fail
        clear hcx
        go_loopg [64] (n) (fun g_ y64 wr => ∃ (i : Nat), y64 = .int .i64 i ∧ Aside0 (Kp [gd] w4 wr) ∧ Aside0 (Below w.heap.size w wr) ∧ Aside0 (wr.ownsRow Bf 3 1 (.slice (some ⟨gd, 0, none⟩) M cd) M (nums .i64 (growI x n bh k (growP d M n bh k) i))) ∧ Aside0 (i ≤ n ∧ g_ = n - i))
        case atStart => exact ⟨0, rfl, ⟨Kp.refl _ _⟩, BW, OWN_d, ⟨Nat.zero_le _, (Nat.sub_zero _).symm⟩⟩
        case round =>
          obtain ⟨i, rfl, KPL, BWL, OWNL, HAi⟩ := hrel
          obtain ⟨w6, rfl⟩ : ∃ x, x = wr := ⟨_, rfl⟩
          obtain ⟨hlei, hgi⟩ := HAi.out
          clear HAi
          replace OWN_d := OWNL
          clear OWNL
          replace BX_t := Aside0.mk (KPL.out.blk BX_t.out (by simp only [List.mem_singleton]; have := S4.out; have := S6.out; have := S8.out; have := S9.out; have := SB.out; have := S11.out; have := S12.out; have := SLW.out; have := S14.out; omega))
          replace BX_r := Aside0.mk (KPL.out.blk BX_r.out (by simp only [List.mem_singleton]; have := S4.out; have := S6.out; have := S8.out; have := S9.out; have := SB.out; have := S11.out; have := S12.out; have := SLW.out; have := S14.out; omega))
          replace BX_o := Aside0.mk (KPL.out.blk BX_o.out (by simp only [List.mem_singleton]; have := S4.out; have := S6.out; have := S8.out; have := S9.out; have := SB.out; have := S11.out; have := S12.out; have := SLW.out; have := S14.out; omega))
          replace BX_l := Aside0.mk (KPL.out.blk BX_l.out (by simp only [List.mem_singleton]; have := S4.out; have := S6.out; have := S8.out; have := S9.out; have := SB.out; have := S11.out; have := S12.out; have := SLW.out; have := S14.out; omega))
          replace KP_v3 := Aside0.mk (KP_v3.out.trans KPL.out (fun g_ hg_ => .inl hg_))
          replace KP_wl := Aside0.mk (KP_wl.out.trans KPL.out (fun g_ hg_ => .inl hg_))
          replace BW := BWL
          clear BWL
          have S15 : Aside0 (w4.heap.size ≤ w6.heap.size) := ⟨KPL.out.1⟩
          have KP_w4 := KPL
          clear KPL
          by_cases hlti : i < n
          case pos =>
            have c1_i : decide ((i : Int) < (n : Int)) = true := by simpa using hlti
            have c2_i : decide (i < n) = true := by simpa using hlti
            have PI : IntKind.i64.wrap ((i : Int) + 1) = ((i + 1 : Nat) : Int) := by rw [wrap_in _ ⟨by omega, by omega⟩]; omega
            obtain ⟨j3, hj3⟩ : ∃ x, laneAt n bh k i = x := ⟨_, rfl⟩
            have hjl3 : j3 < M := by rw [← hj3]; exact LT.out k i hltk hlti
            have hji3 : ((j3 : Nat) : Int) < (M : Int) := by omega
            have AT3 : Aside0 (∀ W' : World, Calls Try.prog 73 #[.agg #[.int .i64 ah, .int .i64 n, .int .i64 bh], .int .i64 k, .int .i64 i] W' fun e w' => e = .returned (.int .i64 (j3 : Nat)) ∧ Below W'.heap.size W' w') := ⟨fun W' => by have h := at_any ah n bh k i W' (by omega) (by omega) (by omega) (by omega) (by omega); rw [hj3] at h; exact h⟩
            have NF : Aside0 (growI x n bh k (growP d M n bh k) (i + 1) = (growI x n bh k (growP d M n bh k) i).set j3 x) := ⟨by simp only [growI]; rw [hj3]⟩
            have hown := own_at OWN_d.out (j3 : Int) (by omega) (by omega)
            simp only [Int.toNat_natCast] at hown
            have hq := hown.1
            have hfz := hown.2
            have HPI := Aside0.mk (And.intro hgi hlti)
            clear hown hj3 hgi hlei
            have qo : w6.cell? ⟨v3.heap.size, 1, none⟩ = some (.slice (some ⟨gd, 0, none⟩) M cd) := (blk_cell BX_o.out 1).trans rfl
            have ql0 : w6.cell? ⟨wu10.heap.size, 0, none⟩ = some (.int .i64 ah) := (blk_cell BX_l.out 0).trans rfl
            have ql1 : w6.cell? ⟨wu10.heap.size, 1, none⟩ = some (.int .i64 n) := (blk_cell BX_l.out 1).trans rfl
            have ql2 : w6.cell? ⟨wu10.heap.size, 2, none⟩ = some (.int .i64 bh) := (blk_cell BX_l.out 2).trans rfl
            go_wp2_with fail
            go_region_held3 (fun w' => w'.cell? ⟨v3.heap.size, 1, none⟩ = some (.slice (some ⟨gd, 0, none⟩) M cd) ∧ w'.cell? ⟨wu10.heap.size, 0, none⟩ = some (.int .i64 ah) ∧ w'.cell? ⟨wu10.heap.size, 1, none⟩ = some (.int .i64 n) ∧ w'.cell? ⟨wu10.heap.size, 2, none⟩ = some (.int .i64 bh) ∧ w'.cell? ⟨gd, j3, none⟩ = some (cellV w' ⟨gd, j3, none⟩) ∧ w'.frozen? ⟨gd, j3, none⟩ = false) (first | (exact ⟨qo, ql0, ql1, ql2, cellV_of hq, hfz⟩) | (exact ⟨pw_cell_below hba qo, pw_cell_below hba ql0, pw_cell_below hba ql1, pw_cell_below hba ql2, cellV_of (pw_cell_below hba hq), frozen_keep hba hq hfz⟩) | (exact ⟨cell_far (by show v3.heap.size ≠ gd; have := S4.out; have := S6.out; have := S8.out; have := S9.out; have := SB.out; have := S11.out; have := S12.out; have := SLW.out; have := S14.out; have := S15.out; omega) (pw_cell_below hba qo), cell_far (by show wu10.heap.size ≠ gd; have := S4.out; have := S6.out; have := S8.out; have := S9.out; have := SB.out; have := S11.out; have := S12.out; have := SLW.out; have := S14.out; have := S15.out; omega) (pw_cell_below hba ql0), cell_far (by show wu10.heap.size ≠ gd; have := S4.out; have := S6.out; have := S8.out; have := S9.out; have := SB.out; have := S11.out; have := S12.out; have := SLW.out; have := S14.out; have := S15.out; omega) (pw_cell_below hba ql1), cell_far (by show wu10.heap.size ≠ gd; have := S4.out; have := S6.out; have := S8.out; have := S9.out; have := SB.out; have := S11.out; have := S12.out; have := SLW.out; have := S14.out; have := S15.out; omega) (pw_cell_below hba ql2), cellV_of (cell_same (pw_cell_below hba hq)), (frozen_set _ _ _ _ _).trans (frozen_keep hba hq hfz)⟩))
              (first | ((with_reducible refine (AT3.out _).mono ?_); rintro e wa ⟨rfl, hba⟩))
            have hb := below_undrew hba
            replace BX_t := Aside0.mk (blk_below BX_t.out hb)
            replace BX_r := Aside0.mk (blk_below BX_r.out hb)
            replace BX_o := Aside0.mk (blk_below BX_o.out hb)
            replace BX_l := Aside0.mk (blk_below BX_l.out hb)
            replace KP_v3 := Aside0.mk (KP_v3.out.below hb)
            replace KP_wl := Aside0.mk (KP_wl.out.below hb)
            replace KP_w4 := Aside0.mk (KP_w4.out.below hb)
            replace OWN_d := Aside0.mk (own_keep OWN_d.out (fun g_ _ hg_ => hb.block g_ hg_))
            replace BW := Aside0.mk (below_then BW.out BW.out.size hb)
            have S16 : Aside0 (w6.heap.size ≤ wa.heap.size) := ⟨hb.size⟩
            clear hb hba hq hfz qo ql0 ql1 ql2
            go_wp2_with fail
            go_roundg (n - (i + 1))
            case measure => have := HPI.out; omega
            case rel => exact ⟨i + 1, by first | rfl | simp, ⟨KP_w4.out.set (by simp) _ _⟩, ⟨BW.out.setCell (p := ⟨gd, j3, none⟩) (show w.heap.size ≤ gd from (by have := S4.out; have := S6.out; have := S8.out; have := S9.out; have := SB.out; have := S11.out; have := S12.out; have := SLW.out; have := S14.out; have := S15.out; have := S16.out; omega)) _⟩, ⟨by have h := (own_store OWN_d.out (j3 : Int) x).1; rw [NF.out]; simpa only [Int.toNat_natCast] using h⟩, ⟨HPI.out.2, rfl⟩⟩
          case neg =>
            obtain rfl : n = i := by omega
            have c1_i : decide ((n : Int) < (n : Int)) = false := by simp
            have c2_i : decide (n < n) = false := by simp
            have NP : Aside0 (growP d M n bh (k + 1) = growI x n bh k (growP d M n bh k) n) := ⟨by simp only [growP]; rw [HX.out]⟩
            clear hgi hlei hlti
            go_wp2_with fail
            go_roundg (d.length - (k + 1))
            case measure => have := HPK.out; omega
            case rel => exact ⟨k + 1, by first | rfl | simp, KP_wl, BW, ⟨by rw [NP.out]; exact OWN_d.out⟩, ⟨HPK.out.2, rfl⟩⟩
      case neg =>
        obtain rfl : k = d.length := by omega
        have c1_k : decide ((d.length : Int) < (d.length : Int)) = false := by simp
        have c2_k : decide (d.length < d.length) = false := by simp
        clear hlek hgk hltk
        have q15 : w4.cell? ⟨w.heap.size + 1, 0, none⟩ = some (.slice none 0 0) := (blk_cell BX_r.out 0).trans rfl
        have q16 : w4.cell? ⟨w.heap.size + 1, 1, none⟩ = some (.slice none 0 0) := (blk_cell BX_r.out 1).trans rfl
        have q17 : w4.cell? ⟨v3.heap.size, 0, none⟩ = some (.slice As (insL s a (n : Int)).length cs) := (blk_cell BX_o.out 0).trans rfl
        have q18 : w4.cell? ⟨v3.heap.size, 1, none⟩ = some (.slice (some ⟨gd, 0, none⟩) M cd) := (blk_cell BX_o.out 1).trans rfl
        have q19 : w4.frozen? ⟨w.heap.size + 1, 0, none⟩ = false := blk_frozen BX_r.out 0
        have q20 : w4.frozen? ⟨w.heap.size + 1, 1, none⟩ = false := blk_frozen BX_r.out 1
        go_wp2_with fail
        clear q15 q16 q17 q18 q19 q20
        rw [EV.out]
        have hrs : RdN v2.heap.size w4 (.slice As (insL s a (n : Int)).length cs) (insL s a (n : Int)) := fun w2 h2 => RS.out w2 (fun k_ hk1 hk2 => (h2 k_ hk1 (by have := S4.out; have := S6.out; have := S8.out; have := S9.out; have := SB.out; have := S11.out; have := S12.out; have := SLW.out; have := S14.out; omega)).trans (KP_v3.out.2 k_ (by have := S4.out; have := S6.out; have := S8.out; have := S9.out; have := SB.out; have := S11.out; have := S12.out; have := SLW.out; have := S14.out; omega) (by simp only [List.mem_singleton]; have := S4.out; have := S6.out; have := S8.out; have := S9.out; have := SB.out; have := S11.out; have := S12.out; have := SLW.out; have := S14.out; omega)))
        have hrd : RdN Bf w4 (.slice (some ⟨gd, 0, none⟩) M cd) (growP d M n bh d.length) := RdN.of_ownsRow (l := growP d M n bh d.length) (v := .slice (some ⟨gd, 0, none⟩) M cd) (by rw [growP_len]; exact OWN_d.out)
        have hrd2 : RdN Bf w4 (.slice (some ⟨gd, 0, none⟩) (growP d M n bh d.length).length cd) (growP d M n bh d.length) := by rw [growP_len]; exact hrd
        exact end_val2 rfl _ w w4 _ (((insL s a (n : Int)), growP d M n bh d.length), 0) _ _ rfl rfl BW.out (by have := S4.out; have := S6.out; have := S8.out; have := S9.out; have := SB.out; have := S11.out; have := S12.out; have := SLW.out; have := S14.out; omega) BX_r.out v2.heap.size Bf (by have := S4.out; have := S6.out; have := S8.out; have := S9.out; have := SB.out; have := S11.out; have := S12.out; have := SLW.out; have := S14.out; omega) (by have := S4.out; have := S6.out; have := S8.out; have := S9.out; have := SB.out; have := S11.out; have := S12.out; have := SLW.out; have := S14.out; omega) hrs hrd
theorem grow_p (A0 : Option Addr) (c0 : Nat) (s : List Int) (A1 : Option Addr) (c1 : Nat) (d : List Int) (ax sd : Int) (w : World) {S D : List Int} {E : Int} (h : growR s d ax sd = ((S, D), E)) (r0 : Rd w (.slice A0 s.length c0) s) (r1 : Rd w (.slice A1 d.length c1) d) (i1 : allI d) :
    Calls Try.prog 33 #[.agg #[.slice A0 s.length c0, .slice A1 d.length c1], .int .i64 ax, .int .i64 sd] w (TPost w ((S, D), E)) := by
  rw [← h]
  by_cases ht : tOk s d = true
  · by_cases hx : 0 ≤ ax ∧ ax ≤ s.length
    · obtain ⟨a, rfl⟩ := Int.eq_ofNat_of_zero_le hx.1
      by_cases hb : shapeOk (insL s a sd) = true
      · exact grow_ok A0 c0 s A1 c1 d a sd w r0 r1 i1 ht (by omega) hb
      · exact grow_bad A0 c0 s A1 c1 d a sd w r0 r1 i1 ht (by omega) (by simpa using hb)
    · by_cases h0 : ax < 0
      · exact grow_unfit1 A0 c0 s A1 c1 d ax sd w r0 r1 i1 ht h0
      · exact grow_unfit2 A0 c0 s A1 c1 d ax sd w r0 r1 i1 ht (by omega)
  · exact grow_untrue A0 c0 s A1 c1 d ax sd w r0 r1 i1 (by simpa using ht)
theorem grow_r (A0 : Option Addr) (c0 : Nat) (s : List Int) (A1 : Option Addr) (c1 : Nat) (d : List Int) (ax sd : Int) (w : World) {S D : List Int} {E : Int} (h : growR s d ax sd = ((S, D), E)) (r0 : Rd w (.slice A0 s.length c0) s) (r1 : Rd w (.slice A1 d.length c1) d) (i1 : allI d) :
    Calls Try.prog 33 #[.agg #[.slice A0 s.length c0, .slice A1 d.length c1], .int .i64 ax, .int .i64 sd] w (TOpenN w S D E) :=
  (grow_p A0 c0 s A1 c1 d ax sd w h r0 r1 i1).mono fun _ _ h => h.openN
end Go.Proofs.Ytpnigmcpifilmaa.P
