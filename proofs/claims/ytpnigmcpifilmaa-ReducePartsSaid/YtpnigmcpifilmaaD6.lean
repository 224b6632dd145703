/- Contract of reduce.First. -/
import Derived.Test.YtpnigmcpifilmaaD5
import Derived.Deep.RegionHeld3
import Derived.Outline
import Derived.Laws.EntriesVeiled
namespace Go.Proofs.Ytpnigmcpifilmaa.P
open Go.RowKit Go.Shelf Go.Proofs.YtpnigmcpifilmaaW.PrintWords Go.Proofs.YtpnigmcpifilmaaW.PrintLast Go.Proofs.YtpnigmcpifilmaaW.PrintMore
set_option linter.unusedVariables false
set_option linter.unusedSimpArgs false
set_option maxHeartbeats 4000000
/-- Where the greatest of the first k is first. -/
def amaxN (X : Nat → Int) : Nat → Nat
  | 0 => 0
  | k + 1 => if X (amaxN X k) < X k then k else amaxN X k
theorem amaxN_lt (X : Nat → Int) : ∀ k, 1 ≤ k → amaxN X k < k
  | 0, h => by omega
  | 1, _ => by simp [amaxN]
  | k + 2, _ => by
    have := amaxN_lt X (k + 1) (by omega)
    rw [amaxN]; split <;> omega
theorem amaxN_le (X : Nat → Int) (k n : Nat) (h : k ≤ n) (hn : 1 ≤ n) : amaxN X k < n := by
  by_cases h1 : 1 ≤ k
  · have := amaxN_lt X k h1; omega
  · have : k = 0 := by omega
    subst this; simp only [amaxN]; omega
def firstN (d : List Int) (sd bh : Nat) : Nat → List Int
  | 0 => List.replicate d.length 0
  | p + 1 => (firstN d sd bh p).set (laneAt sd bh p (amaxN (fun i => rd d (laneAt sd bh p i : Nat)) sd)) 4294967296
theorem firstN_len (d : List Int) (sd bh : Nat) : ∀ p, (firstN d sd bh p).length = d.length
  | 0 => by simp [firstN]
  | p + 1 => by simp [firstN, firstN_len d sd bh p]
def firstR (s d : List Int) (ax : Int) : TR :=
  if tOk s d then (if 0 ≤ ax ∧ ax < s.length then ((s, firstN d (sdOf s ax.toNat) (bhOf s ax.toNat) (sizeS (s.eraseIdx ax.toNat))), 0) else (([], []), 20)) else (([], []), 30)
/-- What a cell holds, whatever that is. -/
def cellV (w : World) (p : Addr) : Value := (w.cell? p).getD undef
theorem cellV_of {w : World} {p : Addr} {v : Value} (h : w.cell? p = some v) : w.cell? p = some (cellV w p) := by unfold cellV; rw [h]; rfl
theorem cell_far {w : World} {p q : Addr} {u v : Value} (hne : q.block ≠ p.block) (h : w.cell? q = some v) : (w.setCell p u).cell? q = some v := by
  rw [World.cell?_setCell_other _ _ _ _ (fun e => hne (by rw [e]))]; exact h
theorem cell_same {w : World} {p : Addr} {u v : Value} (h : w.cell? p = some v) : (w.setCell p u).cell? p = some u := World.cell?_setCell_same _ _ _ h
theorem frozen_set (w : World) (g i : Nat) (q : Addr) (u : Value) : (w.setCell ⟨g, i, none⟩ u).frozen? q = w.frozen? q := World.frozen?_setCells g [u] i w q
theorem amaxN_up {X : Nat → Int} {k m : Nat} (hm : amaxN X k = m) (h : X m < X k) : amaxN X (k + 1) = k := by subst hm; simp only [amaxN]; rw [if_pos h]
theorem amaxN_stay {X : Nat → Int} {k m : Nat} (hm : amaxN X k = m) (h : ¬ X m < X k) : amaxN X (k + 1) = m := by subst hm; simp only [amaxN]; rw [if_neg h]
theorem frozen_keep {w w1 : World} {p : Addr} {v : Value} (h : Below w.heap.size w w1) (hc : w.cell? p = some v) (hf : w.frozen? p = false) : w1.frozen? p = false := (h.frozen (World.block_lt_of_cell? w p hc)).trans hf
set_option maxRecDepth 100000 in
theorem first_untrue (A0 : Option Addr) (c0 : Nat) (s : List Int) (A1 : Option Addr) (c1 : Nat) (d : List Int) (ax : Int) (w : World) (r0 : Rd w (.slice A0 s.length c0) s) (r1 : Rd w (.slice A1 d.length c1) d) (i1 : allI d) (ht : tOk s d = false) :
    Calls Try.prog 31 #[.agg #[.slice A0 s.length c0, .slice A1 d.length c1], .int .i64 ax] w (TPost w (firstR s d ax)) := by
  have EV : Aside0 (firstR s d ax = (([], []), 30)) := ⟨by unfold firstR; rw [if_neg (by rw [ht]; simp)]⟩
  have HT := Aside0.mk ht
  clear ht
  have R0_a := Aside0.mk r0
  have R0_d := Aside0.mk r1
  have I1 := Aside0.mk i1
  clear r0 r1 i1
  have BW : Aside0 (Below w.heap.size w w) := ⟨Below.refl _ _⟩
  go_enter Try.func31, Try.ntmps31
  have q1 : ((w.alloc (Obj.cells #[.slice A0 s.length c0, .slice A1 d.length c1] 24)).alloc (Obj.cells #[.slice none 0 0, .slice none 0 0] 24)).cell? ⟨w.heap.size, 0, none⟩ = some (.slice A0 s.length c0) := (blk_cell (blk_fold w [Obj.cells #[.slice A0 s.length c0, .slice A1 d.length c1] 24, Obj.cells #[.slice none 0 0, .slice none 0 0] 24] 0 _ rfl) 0).trans rfl
  have q2 : ((w.alloc (Obj.cells #[.slice A0 s.length c0, .slice A1 d.length c1] 24)).alloc (Obj.cells #[.slice none 0 0, .slice none 0 0] 24)).cell? ⟨w.heap.size, 1, none⟩ = some (.slice A1 d.length c1) := (blk_cell (blk_fold w [Obj.cells #[.slice A0 s.length c0, .slice A1 d.length c1] 24, Obj.cells #[.slice none 0 0, .slice none 0 0] 24] 0 _ rfl) 1).trans rfl
  obtain ⟨wu3, hwu3⟩ : ∃ u, ((w.alloc (Obj.cells #[.slice A0 s.length c0, .slice A1 d.length c1] 24)).alloc (Obj.cells #[.slice none 0 0, .slice none 0 0] 24)) = u := ⟨_, rfl⟩
  have hbwu3 : Below w.heap.size w wu3 := by rw [← hwu3]; exact below_fold w [Obj.cells #[.slice A0 s.length c0, .slice A1 d.length c1] 24, Obj.cells #[.slice none 0 0, .slice none 0 0] 24]
  have S4 : Aside0 (wu3.heap.size = w.heap.size + 2) := ⟨by rw [← hwu3]; exact size_fold w [Obj.cells #[.slice A0 s.length c0, .slice A1 d.length c1] 24, Obj.cells #[.slice none 0 0, .slice none 0 0] 24]⟩
  have BX_t : Aside0 (wu3.heap[w.heap.size]? = some (.cells #[.slice A0 s.length c0, .slice A1 d.length c1] 24 (0, 0))) := ⟨by rw [← hwu3]; exact blk_fold w [Obj.cells #[.slice A0 s.length c0, .slice A1 d.length c1] 24, Obj.cells #[.slice none 0 0, .slice none 0 0] 24] 0 _ rfl⟩
  have BX_r : Aside0 (wu3.heap[w.heap.size + 1]? = some (.cells #[.slice none 0 0, .slice none 0 0] 24 (0, 0))) := ⟨by rw [← hwu3]; exact blk_fold w [Obj.cells #[.slice A0 s.length c0, .slice A1 d.length c1] 24, Obj.cells #[.slice none 0 0, .slice none 0 0] 24] 1 _ rfl⟩
  replace BW := Aside0.mk (below_then BW.out BW.out.size hbwu3)
  have Hwu3 := Aside0.mk hwu3
  clear hbwu3 hwu3
  go_wp2_with fail
  rw [Hwu3.out]
  clear q1 q2
  clear Hwu3
  refine (lanes_untrue A0 c0 s A1 c1 d ax _ (R0_a.out.below BW.out) HT.out).mono ?_
  rintro e v5 ⟨rfl, hb⟩
  replace BX_t := Aside0.mk (blk_below BX_t.out hb)
  replace BX_r := Aside0.mk (blk_below BX_r.out hb)
  replace BW := Aside0.mk (below_then BW.out BW.out.size hb)
  have S6 : Aside0 (wu3.heap.size ≤ v5.heap.size) := ⟨hb.size⟩
  clear hb
  have q7 : (v5.alloc (Obj.cells #[.int .i64 0, .int .i64 0, .int .i64 0] 91)).cell? ⟨w.heap.size + 1, 0, none⟩ = some (.slice none 0 0) := (blk_cell (blk_below BX_r.out (below_fold v5 [Obj.cells #[.int .i64 0, .int .i64 0, .int .i64 0] 91])) 0).trans rfl
  have q8 : (v5.alloc (Obj.cells #[.int .i64 0, .int .i64 0, .int .i64 0] 91)).cell? ⟨w.heap.size + 1, 1, none⟩ = some (.slice none 0 0) := (blk_cell (blk_below BX_r.out (below_fold v5 [Obj.cells #[.int .i64 0, .int .i64 0, .int .i64 0] 91])) 1).trans rfl
  have q9 : (v5.alloc (Obj.cells #[.int .i64 0, .int .i64 0, .int .i64 0] 91)).frozen? ⟨w.heap.size + 1, 0, none⟩ = false := blk_frozen (blk_below BX_r.out (below_fold v5 [Obj.cells #[.int .i64 0, .int .i64 0, .int .i64 0] 91])) 0
  have q10 : (v5.alloc (Obj.cells #[.int .i64 0, .int .i64 0, .int .i64 0] 91)).frozen? ⟨w.heap.size + 1, 1, none⟩ = false := blk_frozen (blk_below BX_r.out (below_fold v5 [Obj.cells #[.int .i64 0, .int .i64 0, .int .i64 0] 91])) 1
  obtain ⟨wu11, hwu11⟩ : ∃ u, (v5.alloc (Obj.cells #[.int .i64 0, .int .i64 0, .int .i64 0] 91)) = u := ⟨_, rfl⟩
  have hbwu11 : Below v5.heap.size v5 wu11 := by rw [← hwu11]; exact below_fold v5 [Obj.cells #[.int .i64 0, .int .i64 0, .int .i64 0] 91]
  have S12 : Aside0 (wu11.heap.size = v5.heap.size + 1) := ⟨by rw [← hwu11]; exact size_fold v5 [Obj.cells #[.int .i64 0, .int .i64 0, .int .i64 0] 91]⟩
  replace BX_t := Aside0.mk (blk_below BX_t.out hbwu11)
  replace BX_r := Aside0.mk (blk_below BX_r.out hbwu11)
  have BX_l : Aside0 (wu11.heap[v5.heap.size]? = some (.cells #[.int .i64 0, .int .i64 0, .int .i64 0] 91 (0, 0))) := ⟨by rw [← hwu11]; exact blk_fold v5 [Obj.cells #[.int .i64 0, .int .i64 0, .int .i64 0] 91] 0 _ rfl⟩
  replace BW := Aside0.mk (below_then BW.out BW.out.size hbwu11)
  have Hwu11 := Aside0.mk hwu11
  clear hbwu11 hwu11
  go_wp2_with fail
  rw [Hwu11.out]
  clear q7 q8 q9 q10
  clear Hwu11
  exact end_err rfl _ w wu11 _ 30 rfl rfl BW.out (by have := S4.out; have := S6.out; have := S12.out; omega) BX_r.out _ EV.out
set_option maxRecDepth 100000 in
theorem first_unfit (A0 : Option Addr) (c0 : Nat) (s : List Int) (A1 : Option Addr) (c1 : Nat) (d : List Int) (ax : Int) (w : World) (r0 : Rd w (.slice A0 s.length c0) s) (r1 : Rd w (.slice A1 d.length c1) d) (i1 : allI d) (ht : tOk s d = true) (hx : ¬ (0 ≤ ax ∧ ax < s.length)) :
    Calls Try.prog 31 #[.agg #[.slice A0 s.length c0, .slice A1 d.length c1], .int .i64 ax] w (TPost w (firstR s d ax)) := by
  have EV : Aside0 (firstR s d ax = (([], []), 20)) := ⟨by unfold firstR; rw [if_pos ht, if_neg hx]⟩
  have HT := Aside0.mk ht
  have HX := Aside0.mk hx
  clear ht hx
  have R0_a := Aside0.mk r0
  have R0_d := Aside0.mk r1
  have I1 := Aside0.mk i1
  clear r0 r1 i1
  have BW : Aside0 (Below w.heap.size w w) := ⟨Below.refl _ _⟩
  go_enter Try.func31, Try.ntmps31
  have q1 : ((w.alloc (Obj.cells #[.slice A0 s.length c0, .slice A1 d.length c1] 24)).alloc (Obj.cells #[.slice none 0 0, .slice none 0 0] 24)).cell? ⟨w.heap.size, 0, none⟩ = some (.slice A0 s.length c0) := (blk_cell (blk_fold w [Obj.cells #[.slice A0 s.length c0, .slice A1 d.length c1] 24, Obj.cells #[.slice none 0 0, .slice none 0 0] 24] 0 _ rfl) 0).trans rfl
  have q2 : ((w.alloc (Obj.cells #[.slice A0 s.length c0, .slice A1 d.length c1] 24)).alloc (Obj.cells #[.slice none 0 0, .slice none 0 0] 24)).cell? ⟨w.heap.size, 1, none⟩ = some (.slice A1 d.length c1) := (blk_cell (blk_fold w [Obj.cells #[.slice A0 s.length c0, .slice A1 d.length c1] 24, Obj.cells #[.slice none 0 0, .slice none 0 0] 24] 0 _ rfl) 1).trans rfl
  obtain ⟨wu3, hwu3⟩ : ∃ u, ((w.alloc (Obj.cells #[.slice A0 s.length c0, .slice A1 d.length c1] 24)).alloc (Obj.cells #[.slice none 0 0, .slice none 0 0] 24)) = u := ⟨_, rfl⟩
  have hbwu3 : Below w.heap.size w wu3 := by rw [← hwu3]; exact below_fold w [Obj.cells #[.slice A0 s.length c0, .slice A1 d.length c1] 24, Obj.cells #[.slice none 0 0, .slice none 0 0] 24]
  have S4 : Aside0 (wu3.heap.size = w.heap.size + 2) := ⟨by rw [← hwu3]; exact size_fold w [Obj.cells #[.slice A0 s.length c0, .slice A1 d.length c1] 24, Obj.cells #[.slice none 0 0, .slice none 0 0] 24]⟩
  have BX_t : Aside0 (wu3.heap[w.heap.size]? = some (.cells #[.slice A0 s.length c0, .slice A1 d.length c1] 24 (0, 0))) := ⟨by rw [← hwu3]; exact blk_fold w [Obj.cells #[.slice A0 s.length c0, .slice A1 d.length c1] 24, Obj.cells #[.slice none 0 0, .slice none 0 0] 24] 0 _ rfl⟩
  have BX_r : Aside0 (wu3.heap[w.heap.size + 1]? = some (.cells #[.slice none 0 0, .slice none 0 0] 24 (0, 0))) := ⟨by rw [← hwu3]; exact blk_fold w [Obj.cells #[.slice A0 s.length c0, .slice A1 d.length c1] 24, Obj.cells #[.slice none 0 0, .slice none 0 0] 24] 1 _ rfl⟩
  replace BW := Aside0.mk (below_then BW.out BW.out.size hbwu3)
  have Hwu3 := Aside0.mk hwu3
  clear hbwu3 hwu3
  go_wp2_with fail
  rw [Hwu3.out]
  clear q1 q2
  clear Hwu3
  refine (lanes_unfit A0 c0 s A1 c1 d ax _ (R0_a.out.below BW.out) HT.out HX.out).mono ?_
  rintro e v5 ⟨rfl, hb⟩
  replace BX_t := Aside0.mk (blk_below BX_t.out hb)
  replace BX_r := Aside0.mk (blk_below BX_r.out hb)
  replace BW := Aside0.mk (below_then BW.out BW.out.size hb)
  have S6 : Aside0 (wu3.heap.size ≤ v5.heap.size) := ⟨hb.size⟩
  clear hb
  have q7 : (v5.alloc (Obj.cells #[.int .i64 0, .int .i64 0, .int .i64 0] 91)).cell? ⟨w.heap.size + 1, 0, none⟩ = some (.slice none 0 0) := (blk_cell (blk_below BX_r.out (below_fold v5 [Obj.cells #[.int .i64 0, .int .i64 0, .int .i64 0] 91])) 0).trans rfl
  have q8 : (v5.alloc (Obj.cells #[.int .i64 0, .int .i64 0, .int .i64 0] 91)).cell? ⟨w.heap.size + 1, 1, none⟩ = some (.slice none 0 0) := (blk_cell (blk_below BX_r.out (below_fold v5 [Obj.cells #[.int .i64 0, .int .i64 0, .int .i64 0] 91])) 1).trans rfl
  have q9 : (v5.alloc (Obj.cells #[.int .i64 0, .int .i64 0, .int .i64 0] 91)).frozen? ⟨w.heap.size + 1, 0, none⟩ = false := blk_frozen (blk_below BX_r.out (below_fold v5 [Obj.cells #[.int .i64 0, .int .i64 0, .int .i64 0] 91])) 0
  have q10 : (v5.alloc (Obj.cells #[.int .i64 0, .int .i64 0, .int .i64 0] 91)).frozen? ⟨w.heap.size + 1, 1, none⟩ = false := blk_frozen (blk_below BX_r.out (below_fold v5 [Obj.cells #[.int .i64 0, .int .i64 0, .int .i64 0] 91])) 1
  obtain ⟨wu11, hwu11⟩ : ∃ u, (v5.alloc (Obj.cells #[.int .i64 0, .int .i64 0, .int .i64 0] 91)) = u := ⟨_, rfl⟩
  have hbwu11 : Below v5.heap.size v5 wu11 := by rw [← hwu11]; exact below_fold v5 [Obj.cells #[.int .i64 0, .int .i64 0, .int .i64 0] 91]
  have S12 : Aside0 (wu11.heap.size = v5.heap.size + 1) := ⟨by rw [← hwu11]; exact size_fold v5 [Obj.cells #[.int .i64 0, .int .i64 0, .int .i64 0] 91]⟩
  replace BX_t := Aside0.mk (blk_below BX_t.out hbwu11)
  replace BX_r := Aside0.mk (blk_below BX_r.out hbwu11)
  have BX_l : Aside0 (wu11.heap[v5.heap.size]? = some (.cells #[.int .i64 0, .int .i64 0, .int .i64 0] 91 (0, 0))) := ⟨by rw [← hwu11]; exact blk_fold v5 [Obj.cells #[.int .i64 0, .int .i64 0, .int .i64 0] 91] 0 _ rfl⟩
  replace BW := Aside0.mk (below_then BW.out BW.out.size hbwu11)
  have Hwu11 := Aside0.mk hwu11
  clear hbwu11 hwu11
  go_wp2_with fail
  rw [Hwu11.out]
  clear q7 q8 q9 q10
  clear Hwu11
  exact end_err rfl _ w wu11 _ 20 rfl rfl BW.out (by have := S4.out; have := S6.out; have := S12.out; omega) BX_r.out _ EV.out
set_option maxRecDepth 100000 in
theorem first_ok (A0 : Option Addr) (c0 : Nat) (s : List Int) (A1 : Option Addr) (c1 : Nat) (d : List Int) (a : Nat) (w : World) (r0 : Rd w (.slice A0 s.length c0) s) (r1 : Rd w (.slice A1 d.length c1) d) (i1 : allI d) (ht : tOk s d = true) (ha : a < s.length) :
    Calls Try.prog 31 #[.agg #[.slice A0 s.length c0, .slice A1 d.length c1], .int .i64 (a : Nat)] w (TPost w (firstR s d (a : Nat))) := by
  have hs := ((tOk_iff _ _).1 ht).1
  have hl := shapeOk_len hs
  obtain ⟨eok, e1, e2, e3, e4⟩ := erase_ok hs ha
  have hdl := ((tOk_iff _ _).1 ht).2
  have sb := side_bd hs ha
  have hsd : rd s (a : Nat) = (sdOf s a : Int) := by unfold sdOf; omega
  have EV : Aside0 (firstR s d (a : Nat) = ((s, firstN d (sdOf s a) (bhOf s a) (sizeS (s.eraseIdx a))), 0)) := ⟨by unfold firstR; rw [if_pos ht, if_pos ⟨by omega, by omega⟩]; simp only [Int.toNat_natCast]⟩
  obtain ⟨sd, hsd'⟩ : ∃ x, sdOf s a = x := ⟨_, rfl⟩
  obtain ⟨bh, hbh⟩ : ∃ x, bhOf s a = x := ⟨_, rfl⟩
  obtain ⟨ah, hah⟩ : ∃ x, sizeS (s.take a) = x := ⟨_, rfl⟩
  obtain ⟨N, hN⟩ : ∃ x, ah * bh = x := ⟨_, rfl⟩
  rw [hsd'] at EV e2 hsd
  rw [hbh] at EV e1 e2 e3
  rw [hah] at e1 e2 e4
  rw [hN] at e1
  have h64 := sizeS_le s
  have hNle : N ≤ 64 := by rw [← e1]; exact sizeS_le _
  have hLT : ∀ p i, p < N → i < sd → laneAt sd bh p i < d.length := fun p i hp hi => by rw [hdl, e2]; exact lane_lt (by rw [hN]; exact hp) hi e3
  have hsd1 : 1 ≤ sd := by omega
  have hsd16 : sd ≤ 16 := by omega
  have hbh64 : bh ≤ 64 := by rw [← hbh]; exact sizeS_le _
  have hdp : 0 < d.length ∧ d.length ≤ 64 := by have := sizeS_pos hs; omega
  have ML : (ah : Int) * (bh : Int) = (N : Int) := by rw [← hN]; simp
  have MW : IntKind.i64.wrap (N : Int) = (N : Int) := wrap_in _ ⟨by omega, by omega⟩
  obtain ⟨ad1, rfl, _⟩ := Kd.at_int r1.c.1 0 (by omega) (by omega)
  have FACT := Aside0.mk (And.intro hNle (And.intro hsd1 (And.intro hsd16 (And.intro e3 (And.intro hbh64 hdp)))))
  have LT := Aside0.mk hLT
  have HT := Aside0.mk ht
  have HE := Aside0.mk e1
  have LN : Aside0 (∀ W, Below w.heap.size w W → Calls Try.prog 72 #[.agg #[.slice A0 s.length c0, .slice (some ad1) d.length c1], .int .i64 (a : Nat)] W fun e w' => e = .returned (.tuple #[.agg #[.int .i64 ah, .int .i64 sd, .int .i64 bh], .int .i64 0]) ∧ Below W.heap.size W w') := ⟨fun W hW => by
    have h := lanes_ok A0 c0 s (some ad1) c1 d a W (r0.below hW) ht ha
    rw [hah, show sizeS (s.drop (a + 1)) = bh from hbh, hsd] at h; exact h⟩
  rw [e1] at EV
  have HS := Aside0.mk hs
  have HDL := Aside0.mk hdl
  clear hs hl eok e1 e2 e3 e4 hdl sb hsd hsd' hbh hah hN hNle hLT hsd1 hsd16 hbh64 hdp ht h64 ha
  have R0_a := Aside0.mk r0
  have R0_d := Aside0.mk r1
  have I1 := Aside0.mk i1
  clear r0 r1 i1
  have BW : Aside0 (Below w.heap.size w w) := ⟨Below.refl _ _⟩
  go_enter Try.func31, Try.ntmps31
  have q1 : ((w.alloc (Obj.cells #[.slice A0 s.length c0, .slice (some ad1) d.length c1] 24)).alloc (Obj.cells #[.slice none 0 0, .slice none 0 0] 24)).cell? ⟨w.heap.size, 0, none⟩ = some (.slice A0 s.length c0) := (blk_cell (blk_fold w [Obj.cells #[.slice A0 s.length c0, .slice (some ad1) d.length c1] 24, Obj.cells #[.slice none 0 0, .slice none 0 0] 24] 0 _ rfl) 0).trans rfl
  have q2 : ((w.alloc (Obj.cells #[.slice A0 s.length c0, .slice (some ad1) d.length c1] 24)).alloc (Obj.cells #[.slice none 0 0, .slice none 0 0] 24)).cell? ⟨w.heap.size, 1, none⟩ = some (.slice (some ad1) d.length c1) := (blk_cell (blk_fold w [Obj.cells #[.slice A0 s.length c0, .slice (some ad1) d.length c1] 24, Obj.cells #[.slice none 0 0, .slice none 0 0] 24] 0 _ rfl) 1).trans rfl
  obtain ⟨wu3, hwu3⟩ : ∃ u, ((w.alloc (Obj.cells #[.slice A0 s.length c0, .slice (some ad1) d.length c1] 24)).alloc (Obj.cells #[.slice none 0 0, .slice none 0 0] 24)) = u := ⟨_, rfl⟩
  have hbwu3 : Below w.heap.size w wu3 := by rw [← hwu3]; exact below_fold w [Obj.cells #[.slice A0 s.length c0, .slice (some ad1) d.length c1] 24, Obj.cells #[.slice none 0 0, .slice none 0 0] 24]
  have S4 : Aside0 (wu3.heap.size = w.heap.size + 2) := ⟨by rw [← hwu3]; exact size_fold w [Obj.cells #[.slice A0 s.length c0, .slice (some ad1) d.length c1] 24, Obj.cells #[.slice none 0 0, .slice none 0 0] 24]⟩
  have BX_t : Aside0 (wu3.heap[w.heap.size]? = some (.cells #[.slice A0 s.length c0, .slice (some ad1) d.length c1] 24 (0, 0))) := ⟨by rw [← hwu3]; exact blk_fold w [Obj.cells #[.slice A0 s.length c0, .slice (some ad1) d.length c1] 24, Obj.cells #[.slice none 0 0, .slice none 0 0] 24] 0 _ rfl⟩
  have BX_r : Aside0 (wu3.heap[w.heap.size + 1]? = some (.cells #[.slice none 0 0, .slice none 0 0] 24 (0, 0))) := ⟨by rw [← hwu3]; exact blk_fold w [Obj.cells #[.slice A0 s.length c0, .slice (some ad1) d.length c1] 24, Obj.cells #[.slice none 0 0, .slice none 0 0] 24] 1 _ rfl⟩
  replace BW := Aside0.mk (below_then BW.out BW.out.size hbwu3)
  have Hwu3 := Aside0.mk hwu3
  clear hbwu3 hwu3
  go_wp2_with fail
  rw [Hwu3.out]
  clear q1 q2
  clear Hwu3
  refine (LN.out _ BW.out).mono ?_
  rintro e v5 ⟨rfl, hb⟩
  replace BX_t := Aside0.mk (blk_below BX_t.out hb)
  replace BX_r := Aside0.mk (blk_below BX_r.out hb)
  replace BW := Aside0.mk (below_then BW.out BW.out.size hb)
  have S6 : Aside0 (wu3.heap.size ≤ v5.heap.size) := ⟨hb.size⟩
  clear hb
  have q7 : (v5.alloc (Obj.cells #[.int .i64 ah, .int .i64 sd, .int .i64 bh] 91)).cell? ⟨w.heap.size, 0, none⟩ = some (.slice A0 s.length c0) := (blk_cell (blk_below BX_t.out (below_fold v5 [Obj.cells #[.int .i64 ah, .int .i64 sd, .int .i64 bh] 91])) 0).trans rfl
  obtain ⟨wu8, hwu8⟩ : ∃ u, (v5.alloc (Obj.cells #[.int .i64 ah, .int .i64 sd, .int .i64 bh] 91)) = u := ⟨_, rfl⟩
  have hbwu8 : Below v5.heap.size v5 wu8 := by rw [← hwu8]; exact below_fold v5 [Obj.cells #[.int .i64 ah, .int .i64 sd, .int .i64 bh] 91]
  have S9 : Aside0 (wu8.heap.size = v5.heap.size + 1) := ⟨by rw [← hwu8]; exact size_fold v5 [Obj.cells #[.int .i64 ah, .int .i64 sd, .int .i64 bh] 91]⟩
  replace BX_t := Aside0.mk (blk_below BX_t.out hbwu8)
  replace BX_r := Aside0.mk (blk_below BX_r.out hbwu8)
  have BX_l : Aside0 (wu8.heap[v5.heap.size]? = some (.cells #[.int .i64 ah, .int .i64 sd, .int .i64 bh] 91 (0, 0))) := ⟨by rw [← hwu8]; exact blk_fold v5 [Obj.cells #[.int .i64 ah, .int .i64 sd, .int .i64 bh] 91] 0 _ rfl⟩
  replace BW := Aside0.mk (below_then BW.out BW.out.size hbwu8)
  have Hwu8 := Aside0.mk hwu8
  clear hbwu8 hwu8
  go_wp2_with fail
  rw [Hwu8.out]
  clear q7
  clear Hwu8
  refine (full_ok A0 c0 s 0 wu8 (R0_a.out.below BW.out).c.1 (R0_a.out.below BW.out).c.2 HS.out).mono ?_
  rintro e v2 ⟨v0, v1, Bf, rfl, hB1, hB2, h0, h1, hb⟩
  obtain ⟨As, cs, rfl, _, _⟩ := h0 v2 (fun _ _ _ => rfl)
  obtain ⟨Ad, cd, rfl⟩ := own_slice h1
  rw [← HDL.out] at h1
  have hlr : (List.replicate d.length (0 : Int)).length = d.length := by simp
  obtain ⟨gd, rfl, hg1, hg2⟩ := own_some (s := List.replicate d.length (0 : Int)) (by rw [hlr]; exact h1) (by rw [hlr]; exact FACT.out.2.2.2.2.2.1)
  have RS := Aside0.mk h0
  replace BX_t := Aside0.mk (blk_below BX_t.out hb)
  replace BX_r := Aside0.mk (blk_below BX_r.out hb)
  replace BX_l := Aside0.mk (blk_below BX_l.out hb)
  replace BW := Aside0.mk (below_then BW.out BW.out.size hb)
  have S10 : Aside0 (wu8.heap.size ≤ v2.heap.size) := ⟨hb.size⟩
  have SB : Aside0 (wu8.heap.size ≤ Bf ∧ Bf ≤ gd ∧ gd < v2.heap.size) := ⟨⟨hB1, hg1, hg2⟩⟩
  have OWN_d := Aside0.mk h1
  clear hb h0 h1 hB1 hB2 hg1 hg2 hlr
  rw [← HDL.out]
  have KP_v2 : Aside0 (Kp [gd] v2 v2) := ⟨Kp.refl _ _⟩
  have q11 : (v2.alloc (Obj.cells #[.slice As s.length cs, .slice (some ⟨gd, 0, none⟩) d.length cd] 24)).cell? ⟨v5.heap.size, 0, none⟩ = some (.int .i64 ah) := (blk_cell (blk_below BX_l.out (below_fold v2 [Obj.cells #[.slice As s.length cs, .slice (some ⟨gd, 0, none⟩) d.length cd] 24])) 0).trans rfl
  have q12 : (v2.alloc (Obj.cells #[.slice As s.length cs, .slice (some ⟨gd, 0, none⟩) d.length cd] 24)).cell? ⟨v5.heap.size, 2, none⟩ = some (.int .i64 bh) := (blk_cell (blk_below BX_l.out (below_fold v2 [Obj.cells #[.slice As s.length cs, .slice (some ⟨gd, 0, none⟩) d.length cd] 24])) 2).trans rfl
  obtain ⟨wu13, hwu13⟩ : ∃ u, (v2.alloc (Obj.cells #[.slice As s.length cs, .slice (some ⟨gd, 0, none⟩) d.length cd] 24)) = u := ⟨_, rfl⟩
  have hbwu13 : Below v2.heap.size v2 wu13 := by rw [← hwu13]; exact below_fold v2 [Obj.cells #[.slice As s.length cs, .slice (some ⟨gd, 0, none⟩) d.length cd] 24]
  have S14 : Aside0 (wu13.heap.size = v2.heap.size + 1) := ⟨by rw [← hwu13]; exact size_fold v2 [Obj.cells #[.slice As s.length cs, .slice (some ⟨gd, 0, none⟩) d.length cd] 24]⟩
  replace BX_t := Aside0.mk (blk_below BX_t.out hbwu13)
  replace BX_r := Aside0.mk (blk_below BX_r.out hbwu13)
  replace BX_l := Aside0.mk (blk_below BX_l.out hbwu13)
  replace KP_v2 := Aside0.mk (KP_v2.out.below hbwu13)
  have BX_o : Aside0 (wu13.heap[v2.heap.size]? = some (.cells #[.slice As s.length cs, .slice (some ⟨gd, 0, none⟩) d.length cd] 24 (0, 0))) := ⟨by rw [← hwu13]; exact blk_fold v2 [Obj.cells #[.slice As s.length cs, .slice (some ⟨gd, 0, none⟩) d.length cd] 24] 0 _ rfl⟩
  replace OWN_d := Aside0.mk (own_keep OWN_d.out (fun g_ _ hg_ => hbwu13.block g_ hg_))
  replace BW := Aside0.mk (below_then BW.out BW.out.size hbwu13)
  have Hwu13 := Aside0.mk hwu13
  clear hbwu13 hwu13
  go_wp2_with fail
  rw [Hwu13.out]
  clear q11 q12
  clear Hwu13
  go_loopg [34] (N) (fun g_ y34 wr => ∃ (k : Nat), y34 = .int .i64 k ∧ Aside0 (Kp [gd] wu13 wr) ∧ Aside0 (Below w.heap.size w wr) ∧ Aside0 (wr.ownsRow Bf 3 1 (.slice (some ⟨gd, 0, none⟩) d.length cd) d.length (nums .i64 (firstN d sd bh k))) ∧ Aside0 (k ≤ N ∧ g_ = N - k))
  case atStart => exact ⟨0, rfl, ⟨Kp.refl _ _⟩, BW, OWN_d, ⟨Nat.zero_le _, (Nat.sub_zero _).symm⟩⟩
  case round =>
    obtain ⟨k, rfl, KPL, BWL, OWN_d, HAk⟩ := hrel
    obtain ⟨w4, rfl⟩ : ∃ x, x = wr := ⟨_, rfl⟩
    obtain ⟨hlek, hgk⟩ := HAk.out
    clear HAk
    replace BX_t := Aside0.mk (KPL.out.blk BX_t.out (by simp only [List.mem_singleton]; have := S4.out; have := S6.out; have := S9.out; have := S10.out; have := SB.out; have := S14.out; omega))
    replace BX_r := Aside0.mk (KPL.out.blk BX_r.out (by simp only [List.mem_singleton]; have := S4.out; have := S6.out; have := S9.out; have := S10.out; have := SB.out; have := S14.out; omega))
    replace BX_l := Aside0.mk (KPL.out.blk BX_l.out (by simp only [List.mem_singleton]; have := S4.out; have := S6.out; have := S9.out; have := S10.out; have := SB.out; have := S14.out; omega))
    replace BX_o := Aside0.mk (KPL.out.blk BX_o.out (by simp only [List.mem_singleton]; have := S4.out; have := S6.out; have := S9.out; have := S10.out; have := SB.out; have := S14.out; omega))
    replace KP_v2 := Aside0.mk (KP_v2.out.trans KPL.out (fun g_ hg_ => .inl hg_))
    replace BW := BWL
    clear BWL
    have S15 : Aside0 (wu13.heap.size ≤ w4.heap.size) := ⟨KPL.out.1⟩
    have KP_wu13 := KPL
    clear KPL
    obtain ⟨f1, f2, f3, f4, f5, f6, f7⟩ := FACT.out
    by_cases hltk : k < N
    case pos =>
      have c1_k : decide ((k : Int) < (N : Int)) = true := by simpa using hltk
      have c2_k : decide (k < N) = true := by simpa using hltk
      have PW : IntKind.i64.wrap ((k : Int) + 1) = ((k + 1 : Nat) : Int) := by rw [wrap_in _ ⟨by omega, by omega⟩]; omega
      have HPK := Aside0.mk (And.intro hgk hltk)
      clear hgk hlek
      have q16 : w4.cell? ⟨v5.heap.size, 1, none⟩ = some (.int .i64 sd) := (blk_cell BX_l.out 1).trans rfl
      go_wp2_with fail
      clear q16
      go_loopg [11, 39] (sd) (fun g_ y11 y39 wr => ∃ (i : Nat), y11 = .int .i64 (amaxN (fun i => rd d (laneAt sd bh k i : Nat)) i : Nat) ∧ y39 = .int .i64 i ∧ Aside0 (Kp [] w4 wr) ∧ Aside0 (Below w.heap.size w wr) ∧ Aside0 (i ≤ sd ∧ g_ = sd - i ∧ True))
      case atStart => exact ⟨0, rfl, rfl, ⟨Kp.refl _ _⟩, BW, ⟨Nat.zero_le _, (Nat.sub_zero _).symm, trivial⟩⟩
      case round =>
        obtain ⟨i, rfl, rfl, KPL, BWL, HAi⟩ := hrel
        obtain ⟨w6, rfl⟩ : ∃ x, x = wr := ⟨_, rfl⟩
        obtain ⟨hlei, hgi, hpi⟩ := HAi.out
        clear HAi
        replace BX_t := Aside0.mk (KPL.out.blk BX_t.out (by simp))
        replace BX_r := Aside0.mk (KPL.out.blk BX_r.out (by simp))
        replace BX_l := Aside0.mk (KPL.out.blk BX_l.out (by simp))
        replace BX_o := Aside0.mk (KPL.out.blk BX_o.out (by simp))
        replace KP_v2 := Aside0.mk (KP_v2.out.trans KPL.out (fun g_ hg_ => by simp at hg_))
        replace KP_wu13 := Aside0.mk (KP_wu13.out.trans KPL.out (fun g_ hg_ => by simp at hg_))
        replace OWN_d := Aside0.mk (own_keep OWN_d.out (fun g_ hb_ hg_ => KPL.out.2 g_ hg_ (by simp)))
        replace BW := BWL
        clear BWL
        have S17 : Aside0 (w4.heap.size ≤ w6.heap.size) := ⟨KPL.out.1⟩
        have KP_w4 := KPL
        clear KPL
        by_cases hlti : i < sd
        case pos =>
          have c1_i : decide ((i : Int) < (sd : Int)) = true := by simpa using hlti
          have c2_i : decide (i < sd) = true := by simpa using hlti
          have PI : IntKind.i64.wrap ((i : Int) + 1) = ((i + 1 : Nat) : Int) := by rw [wrap_in _ ⟨by omega, by omega⟩]; omega
          obtain ⟨am, ham⟩ : ∃ x, amaxN (fun i => rd d (laneAt sd bh k i : Nat)) i = x := ⟨_, rfl⟩
          have hamlt : am < sd := by rw [← ham]; exact amaxN_le _ _ _ (by omega) (by omega)
          rw [ham]
          have HAM := Aside0.mk ham
          clear ham
          obtain ⟨x1, hx1⟩ : ∃ x, rd d (laneAt sd bh k i : Nat) = x := ⟨_, rfl⟩
          obtain ⟨j1, hj1⟩ : ∃ x, laneAt sd bh k i = x := ⟨_, rfl⟩
          have hjl1 : j1 < d.length := by rw [← hj1]; exact LT.out k _ hltk hlti
          obtain ⟨_, hada, hc1⟩ := Kd.at_int (R0_d.out.below BW.out).c.1 (j1 : Int) (by omega) (by omega)
          cases hada
          simp only [Int.toNat_natCast] at hc1
          have X1 := Aside0.mk hx1
          rw [hj1] at hx1
          rw [hx1] at hc1
          have hji1 : ((j1 : Nat) : Int) < (d.length : Int) := by omega
          have AT1 : Aside0 (∀ W' : World, Calls Try.prog 73 #[.agg #[.int .i64 ah, .int .i64 sd, .int .i64 bh], .int .i64 k, .int .i64 i] W' fun e w' => e = .returned (.int .i64 (j1 : Nat)) ∧ Below W'.heap.size W' w') := ⟨fun W' => by have h := at_any ah sd bh k i W' (by omega) (by omega) (by omega) (by omega) (by omega); rw [hj1] at h; exact h⟩
          obtain ⟨x2, hx2⟩ : ∃ x, rd d (laneAt sd bh k am : Nat) = x := ⟨_, rfl⟩
          obtain ⟨j2, hj2⟩ : ∃ x, laneAt sd bh k am = x := ⟨_, rfl⟩
          have hjl2 : j2 < d.length := by rw [← hj2]; exact LT.out k _ hltk hamlt
          obtain ⟨_, hada, hc2⟩ := Kd.at_int (R0_d.out.below BW.out).c.1 (j2 : Int) (by omega) (by omega)
          cases hada
          simp only [Int.toNat_natCast] at hc2
          have X2 := Aside0.mk hx2
          rw [hj2] at hx2
          rw [hx2] at hc2
          have hji2 : ((j2 : Nat) : Int) < (d.length : Int) := by omega
          have AT2 : Aside0 (∀ W' : World, Calls Try.prog 73 #[.agg #[.int .i64 ah, .int .i64 sd, .int .i64 bh], .int .i64 k, .int .i64 am] W' fun e w' => e = .returned (.int .i64 (j2 : Nat)) ∧ Below W'.heap.size W' w') := ⟨fun W' => by have h := at_any ah sd bh k am W' (by omega) (by omega) (by omega) (by omega) (by omega); rw [hj2] at h; exact h⟩
          have qt : w6.cell? ⟨w.heap.size, 1, none⟩ = some (.slice (some ad1) d.length c1) := (blk_cell BX_t.out 1).trans rfl
          have ql0 : w6.cell? ⟨v5.heap.size, 0, none⟩ = some (.int .i64 ah) := (blk_cell BX_l.out 0).trans rfl
          have ql1 : w6.cell? ⟨v5.heap.size, 1, none⟩ = some (.int .i64 sd) := (blk_cell BX_l.out 1).trans rfl
          have ql2 : w6.cell? ⟨v5.heap.size, 2, none⟩ = some (.int .i64 bh) := (blk_cell BX_l.out 2).trans rfl
          have HPI := Aside0.mk (And.intro hgi hlti)
          clear hj1 hx1 hj2 hx2 hgi hlei hpi hamlt
          by_cases hgt : x2 < x1
          case pos =>
            have zg : decide (x2 < x1) = true := by simpa using hgt
            have NA : Aside0 (amaxN (fun i => rd d (laneAt sd bh k i : Nat)) (i + 1) = i) := ⟨amaxN_up HAM.out (by show rd d (laneAt sd bh k am : Nat) < rd d (laneAt sd bh k i : Nat); rw [X1.out, X2.out]; exact hgt)⟩
            clear hgt
            go_wp2_with fail
            go_region_held3 (fun w' => w'.cell? ⟨w.heap.size, 1, none⟩ = some (.slice (some ad1) d.length c1) ∧ w'.cell? ⟨v5.heap.size, 0, none⟩ = some (.int .i64 ah) ∧ w'.cell? ⟨v5.heap.size, 1, none⟩ = some (.int .i64 sd) ∧ w'.cell? ⟨v5.heap.size, 2, none⟩ = some (.int .i64 bh) ∧ w'.cell? (ad1.add j1) = some (.int .i64 x1) ∧ w'.cell? (ad1.add j2) = some (.int .i64 x2)) (first | (exact ⟨qt, ql0, ql1, ql2, hc1, hc2⟩) | (exact ⟨pw_cell_below hba qt, pw_cell_below hba ql0, pw_cell_below hba ql1, pw_cell_below hba ql2, pw_cell_below hba hc1, pw_cell_below hba hc2⟩) | (exact ⟨pw_cell_below hbb (pw_cell_below hba qt), pw_cell_below hbb (pw_cell_below hba ql0), pw_cell_below hbb (pw_cell_below hba ql1), pw_cell_below hbb (pw_cell_below hba ql2), pw_cell_below hbb (pw_cell_below hba hc1), pw_cell_below hbb (pw_cell_below hba hc2)⟩))
              (first | ((with_reducible refine (AT1.out _).mono ?_); rintro e wa ⟨rfl, hba⟩) | ((with_reducible refine (AT2.out _).mono ?_); rintro e wc ⟨rfl, hbb⟩))
            have hb := below_then (below_undrew hba) (below_undrew hba).size hbb
            replace BX_t := Aside0.mk (blk_below BX_t.out hb)
            replace BX_r := Aside0.mk (blk_below BX_r.out hb)
            replace BX_l := Aside0.mk (blk_below BX_l.out hb)
            replace BX_o := Aside0.mk (blk_below BX_o.out hb)
            replace KP_v2 := Aside0.mk (KP_v2.out.below hb)
            replace KP_wu13 := Aside0.mk (KP_wu13.out.below hb)
            replace KP_w4 := Aside0.mk (KP_w4.out.below hb)
            replace OWN_d := Aside0.mk (own_keep OWN_d.out (fun g_ _ hg_ => hb.block g_ hg_))
            replace BW := Aside0.mk (below_then BW.out BW.out.size hb)
            have S18 : Aside0 (w6.heap.size ≤ wc.heap.size) := ⟨hb.size⟩
            clear hb hba hbb qt ql0 ql1 ql2 hc1 hc2
            go_wp2_with fail
            go_roundg (sd - (i + 1))
            case measure => have := HPI.out; omega
            case rel => exact ⟨i + 1, by rw [NA.out], by first | rfl | simp, KP_w4, BW, ⟨HPI.out.2, rfl, trivial⟩⟩
          case neg =>
            have zg : decide (x2 < x1) = false := by simpa using hgt
            have NA : Aside0 (amaxN (fun i => rd d (laneAt sd bh k i : Nat)) (i + 1) = am) := ⟨amaxN_stay HAM.out (by show ¬ rd d (laneAt sd bh k am : Nat) < rd d (laneAt sd bh k i : Nat); rw [X1.out, X2.out]; exact hgt)⟩
            clear hgt
            go_wp2_with fail
            go_region_held3 (fun w' => w'.cell? ⟨w.heap.size, 1, none⟩ = some (.slice (some ad1) d.length c1) ∧ w'.cell? ⟨v5.heap.size, 0, none⟩ = some (.int .i64 ah) ∧ w'.cell? ⟨v5.heap.size, 1, none⟩ = some (.int .i64 sd) ∧ w'.cell? ⟨v5.heap.size, 2, none⟩ = some (.int .i64 bh) ∧ w'.cell? (ad1.add j1) = some (.int .i64 x1) ∧ w'.cell? (ad1.add j2) = some (.int .i64 x2)) (first | (exact ⟨qt, ql0, ql1, ql2, hc1, hc2⟩) | (exact ⟨pw_cell_below hba qt, pw_cell_below hba ql0, pw_cell_below hba ql1, pw_cell_below hba ql2, pw_cell_below hba hc1, pw_cell_below hba hc2⟩) | (exact ⟨pw_cell_below hbb (pw_cell_below hba qt), pw_cell_below hbb (pw_cell_below hba ql0), pw_cell_below hbb (pw_cell_below hba ql1), pw_cell_below hbb (pw_cell_below hba ql2), pw_cell_below hbb (pw_cell_below hba hc1), pw_cell_below hbb (pw_cell_below hba hc2)⟩))
              (first | ((with_reducible refine (AT1.out _).mono ?_); rintro e wa ⟨rfl, hba⟩) | ((with_reducible refine (AT2.out _).mono ?_); rintro e wc ⟨rfl, hbb⟩))
            have hb := below_then (below_undrew hba) (below_undrew hba).size hbb
            replace BX_t := Aside0.mk (blk_below BX_t.out hb)
            replace BX_r := Aside0.mk (blk_below BX_r.out hb)
            replace BX_l := Aside0.mk (blk_below BX_l.out hb)
            replace BX_o := Aside0.mk (blk_below BX_o.out hb)
            replace KP_v2 := Aside0.mk (KP_v2.out.below hb)
            replace KP_wu13 := Aside0.mk (KP_wu13.out.below hb)
            replace KP_w4 := Aside0.mk (KP_w4.out.below hb)
            replace OWN_d := Aside0.mk (own_keep OWN_d.out (fun g_ _ hg_ => hb.block g_ hg_))
            replace BW := Aside0.mk (below_then BW.out BW.out.size hb)
            have S18 : Aside0 (w6.heap.size ≤ wc.heap.size) := ⟨hb.size⟩
            clear hb hba hbb qt ql0 ql1 ql2 hc1 hc2
            go_wp2_with fail
            go_roundg (sd - (i + 1))
            case measure => have := HPI.out; omega
            case rel => exact ⟨i + 1, by rw [NA.out], by first | rfl | simp, KP_w4, BW, ⟨HPI.out.2, rfl, trivial⟩⟩
        case neg =>
          obtain rfl : sd = i := by omega
          have c1_i : decide ((sd : Int) < (sd : Int)) = false := by simp
          have c2_i : decide (sd < sd) = false := by simp
          obtain ⟨am, ham⟩ : ∃ x, amaxN (fun i => rd d (laneAt sd bh k i : Nat)) sd = x := ⟨_, rfl⟩
          have hamlt : am < sd := by rw [← ham]; exact amaxN_le _ _ _ (by omega) (by omega)
          rw [ham]
          have NF : Aside0 (firstN d sd bh (k + 1) = (firstN d sd bh k).set (laneAt sd bh k am) 4294967296) := ⟨by simp only [firstN]; rw [ham]⟩
          clear ham
          obtain ⟨j3, hj3⟩ : ∃ x, laneAt sd bh k am = x := ⟨_, rfl⟩
          have hjl3 : j3 < d.length := by rw [← hj3]; exact LT.out k _ hltk hamlt
          have hji3 : ((j3 : Nat) : Int) < (d.length : Int) := by omega
          rw [hj3] at NF
          have AT3 : Aside0 (∀ W' : World, Calls Try.prog 73 #[.agg #[.int .i64 ah, .int .i64 sd, .int .i64 bh], .int .i64 k, .int .i64 am] W' fun e w' => e = .returned (.int .i64 (j3 : Nat)) ∧ Below W'.heap.size W' w') := ⟨fun W' => by have h := at_any ah sd bh k am W' (by omega) (by omega) (by omega) (by omega) (by omega); rw [hj3] at h; exact h⟩
          have hown := own_at OWN_d.out (j3 : Int) (by omega) (by omega)
          simp only [Int.toNat_natCast] at hown
          have hq := hown.1
          have hfz := hown.2
          clear hown hj3 hgi hlei hpi hlti hamlt
          have qo : w6.cell? ⟨v2.heap.size, 1, none⟩ = some (.slice (some ⟨gd, 0, none⟩) d.length cd) := (blk_cell BX_o.out 1).trans rfl
          have ql0 : w6.cell? ⟨v5.heap.size, 0, none⟩ = some (.int .i64 ah) := (blk_cell BX_l.out 0).trans rfl
          have ql1 : w6.cell? ⟨v5.heap.size, 1, none⟩ = some (.int .i64 sd) := (blk_cell BX_l.out 1).trans rfl
          have ql2 : w6.cell? ⟨v5.heap.size, 2, none⟩ = some (.int .i64 bh) := (blk_cell BX_l.out 2).trans rfl
          go_wp2_with fail
          go_region_held3 (fun w' => w'.cell? ⟨v2.heap.size, 1, none⟩ = some (.slice (some ⟨gd, 0, none⟩) d.length cd) ∧ w'.cell? ⟨v5.heap.size, 0, none⟩ = some (.int .i64 ah) ∧ w'.cell? ⟨v5.heap.size, 1, none⟩ = some (.int .i64 sd) ∧ w'.cell? ⟨v5.heap.size, 2, none⟩ = some (.int .i64 bh) ∧ w'.cell? ⟨gd, j3, none⟩ = some (cellV w' ⟨gd, j3, none⟩) ∧ w'.frozen? ⟨gd, j3, none⟩ = false) (first | (exact ⟨qo, ql0, ql1, ql2, cellV_of hq, hfz⟩) | (exact ⟨pw_cell_below hba qo, pw_cell_below hba ql0, pw_cell_below hba ql1, pw_cell_below hba ql2, cellV_of (pw_cell_below hba hq), frozen_keep hba hq hfz⟩) | (exact ⟨cell_far (by show v2.heap.size ≠ gd; have := S4.out; have := S6.out; have := S9.out; have := S10.out; have := SB.out; have := S14.out; have := S15.out; have := S17.out; omega) (pw_cell_below hba qo), cell_far (by show v5.heap.size ≠ gd; have := S4.out; have := S6.out; have := S9.out; have := S10.out; have := SB.out; have := S14.out; have := S15.out; have := S17.out; omega) (pw_cell_below hba ql0), cell_far (by show v5.heap.size ≠ gd; have := S4.out; have := S6.out; have := S9.out; have := S10.out; have := SB.out; have := S14.out; have := S15.out; have := S17.out; omega) (pw_cell_below hba ql1), cell_far (by show v5.heap.size ≠ gd; have := S4.out; have := S6.out; have := S9.out; have := S10.out; have := SB.out; have := S14.out; have := S15.out; have := S17.out; omega) (pw_cell_below hba ql2), cellV_of (cell_same (pw_cell_below hba hq)), (frozen_set _ _ _ _ _).trans (frozen_keep hba hq hfz)⟩))
            (first | ((with_reducible refine (AT3.out _).mono ?_); rintro e wa ⟨rfl, hba⟩))
          have hb := below_undrew hba
          replace BX_t := Aside0.mk (blk_below BX_t.out hb)
          replace BX_r := Aside0.mk (blk_below BX_r.out hb)
          replace BX_l := Aside0.mk (blk_below BX_l.out hb)
          replace BX_o := Aside0.mk (blk_below BX_o.out hb)
          replace KP_v2 := Aside0.mk (KP_v2.out.below hb)
          replace KP_wu13 := Aside0.mk (KP_wu13.out.below hb)
          replace KP_w4 := Aside0.mk (KP_w4.out.below hb)
          replace OWN_d := Aside0.mk (own_keep OWN_d.out (fun g_ _ hg_ => hb.block g_ hg_))
          replace BW := Aside0.mk (below_then BW.out BW.out.size hb)
          have S18 : Aside0 (w6.heap.size ≤ wa.heap.size) := ⟨hb.size⟩
          clear hb hba hq hfz qo ql0 ql1 ql2
          go_wp2_with fail
          go_roundg (N - (k + 1))
          case measure => have := HPK.out; omega
          case rel => exact ⟨k + 1, by first | rfl | simp, ⟨KP_wu13.out.set (by simp) _ _⟩, ⟨BW.out.setCell (p := ⟨gd, j3, none⟩) (show w.heap.size ≤ gd from (by have := S4.out; have := S6.out; have := S9.out; have := S10.out; have := SB.out; have := S14.out; have := S15.out; have := S17.out; have := S18.out; omega)) _⟩, ⟨by have h := (own_store OWN_d.out (j3 : Int) 4294967296).1; rw [NF.out]; simpa only [Int.toNat_natCast] using h⟩, ⟨HPK.out.2, rfl⟩⟩
    case neg =>
      obtain rfl : N = k := by omega
      have c1_k : decide ((N : Int) < (N : Int)) = false := by simp
      have c2_k : decide (N < N) = false := by simp
      clear hlek hgk hltk
      have q16 : w4.cell? ⟨w.heap.size + 1, 0, none⟩ = some (.slice none 0 0) := (blk_cell BX_r.out 0).trans rfl
      have q17 : w4.cell? ⟨w.heap.size + 1, 1, none⟩ = some (.slice none 0 0) := (blk_cell BX_r.out 1).trans rfl
      have q18 : w4.cell? ⟨v2.heap.size, 0, none⟩ = some (.slice As s.length cs) := (blk_cell BX_o.out 0).trans rfl
      have q19 : w4.cell? ⟨v2.heap.size, 1, none⟩ = some (.slice (some ⟨gd, 0, none⟩) d.length cd) := (blk_cell BX_o.out 1).trans rfl
      have q20 : w4.frozen? ⟨w.heap.size + 1, 0, none⟩ = false := blk_frozen BX_r.out 0
      have q21 : w4.frozen? ⟨w.heap.size + 1, 1, none⟩ = false := blk_frozen BX_r.out 1
      go_wp2_with fail
      clear q16 q17 q18 q19 q20 q21
      rw [EV.out]
      have hrs : RdN wu8.heap.size w4 (.slice As s.length cs) s := fun w2 h2 => RS.out w2 (fun k_ hk1 hk2 => (h2 k_ hk1 (by have := S4.out; have := S6.out; have := S9.out; have := S10.out; have := SB.out; have := S14.out; have := S15.out; omega)).trans (KP_v2.out.2 k_ (by have := S4.out; have := S6.out; have := S9.out; have := S10.out; have := SB.out; have := S14.out; have := S15.out; omega) (by simp only [List.mem_singleton]; have := S4.out; have := S6.out; have := S9.out; have := S10.out; have := SB.out; have := S14.out; have := S15.out; omega)))
      have hrd : RdN Bf w4 (.slice (some ⟨gd, 0, none⟩) d.length cd) (firstN d sd bh N) := by
        have h := RdN.of_ownsRow (l := firstN d sd bh N) (v := .slice (some ⟨gd, 0, none⟩) d.length cd) (by rw [firstN_len]; exact OWN_d.out)
        exact h
      exact end_val2 rfl _ w w4 _ ((s, firstN d sd bh N), 0) _ _ rfl rfl BW.out (by have := S4.out; have := S6.out; have := S9.out; have := S10.out; have := SB.out; have := S14.out; have := S15.out; omega) BX_r.out wu8.heap.size Bf (by have := S4.out; have := S6.out; have := S9.out; have := S10.out; have := SB.out; have := S14.out; have := S15.out; omega) (by have := S4.out; have := S6.out; have := S9.out; have := S10.out; have := SB.out; have := S14.out; have := S15.out; omega) hrs hrd
theorem first_p (A0 : Option Addr) (c0 : Nat) (s : List Int) (A1 : Option Addr) (c1 : Nat) (d : List Int) (ax : Int) (w : World) {S D : List Int} {E : Int} (h : firstR s d ax = ((S, D), E)) (r0 : Rd w (.slice A0 s.length c0) s) (r1 : Rd w (.slice A1 d.length c1) d) (i1 : allI d) :
    Calls Try.prog 31 #[.agg #[.slice A0 s.length c0, .slice A1 d.length c1], .int .i64 ax] w (TPost w ((S, D), E)) := by
  rw [← h]
  by_cases ht : tOk s d = true
  · by_cases hx : 0 ≤ ax ∧ ax < s.length
    · obtain ⟨a, rfl⟩ := Int.eq_ofNat_of_zero_le hx.1
      exact first_ok A0 c0 s A1 c1 d a w r0 r1 i1 ht (by omega)
    · exact first_unfit A0 c0 s A1 c1 d ax w r0 r1 i1 ht hx
  · exact first_untrue A0 c0 s A1 c1 d ax w r0 r1 i1 (by simpa using ht)
theorem first_r (A0 : Option Addr) (c0 : Nat) (s : List Int) (A1 : Option Addr) (c1 : Nat) (d : List Int) (ax : Int) (w : World) {S D : List Int} {E : Int} (h : firstR s d ax = ((S, D), E)) (r0 : Rd w (.slice A0 s.length c0) s) (r1 : Rd w (.slice A1 d.length c1) d) (i1 : allI d) :
    Calls Try.prog 31 #[.agg #[.slice A0 s.length c0, .slice A1 d.length c1], .int .i64 ax] w (TOpenN w S D E) :=
  (first_p A0 c0 s A1 c1 d ax w h r0 r1 i1).mono fun _ _ h => h.openN
end Go.Proofs.Ytpnigmcpifilmaa.P
