/- Contract of reduce.together. -/
import Derived.Test.YtpnigmcpifilmaaD3
import Derived.Deep.RegionHeld3
import Derived.Outline
import Derived.Laws.EntriesVeiled
namespace Go.Proofs.Ytpnigmcpifilmaa.P
open Go.RowKit Go.Shelf Go.Proofs.YtpnigmcpifilmaaW.PrintWords Go.Proofs.YtpnigmcpifilmaaW.PrintLast Go.Proofs.YtpnigmcpifilmaaW.PrintMore
set_option linter.unusedVariables false
set_option linter.unusedSimpArgs false
set_option maxHeartbeats 4000000
theorem lanes_unfit (A0 : Option Addr) (c0 : Nat) (s : List Int) (A1 : Option Addr) (c1 : Nat) (d : List Int) (ax : Int) (w : World) (r0 : Rd w (.slice A0 s.length c0) s) (ht : tOk s d = true) (hx : ¬ (0 ≤ ax ∧ ax < s.length)) :
    Calls Try.prog 72 #[.agg #[.slice A0 s.length c0, .slice A1 d.length c1], .int .i64 ax] w fun e w' => e = .returned (.tuple #[.agg #[.int .i64 0, .int .i64 0, .int .i64 0], .int .i64 20]) ∧ Below w.heap.size w w' := by
  by_cases h : ax < 0
  · exact lanes_unfit1 A0 c0 s A1 c1 d ax w r0 ht h
  · exact lanes_unfit2 A0 c0 s A1 c1 d ax w r0 ht (by omega)
theorem own_down {w : World} {B B' : Nat} {e : TypeId} {size n : Nat} {v : Value} {xs : List Value} (h : w.ownsRow B e size v n xs) (hb : B' ≤ B) : w.ownsRow B' e size v n xs := own_weaken h hb
set_option maxRecDepth 100000 in
theorem tog_untrue (fw fe ff : Nat) (Fw Fe : Int → Int → Int × Int) (Ff : Int → Int) (hw : IsTwo fw Fw) (he : IsTwo fe Fe) (hf : IsFrom ff Ff) (A0 : Option Addr) (c0 : Nat) (s : List Int) (A1 : Option Addr) (c1 : Nat) (d : List Int) (ax : Int) (w : World) (r0 : Rd w (.slice A0 s.length c0) s) (ht : tOk s d = false) :
    Calls Try.prog 58 #[.agg #[.slice A0 s.length c0, .slice A1 d.length c1], .int .i64 ax, .agg #[.func (.func fw) #[] #[], .func (.func fe) #[] #[]], .func (.func ff) #[] #[]] w (TPost w (togR Fw Fe Ff s d ax)) := by
  have EV : Aside0 (togR Fw Fe Ff s d ax = (([], []), 30)) := ⟨by unfold togR; rw [if_neg (by rw [ht]; simp)]⟩
  have HT := Aside0.mk ht
  clear ht
  clear hw he hf
  have R0_a := Aside0.mk r0
  clear r0
  have BW : Aside0 (Below w.heap.size w w) := ⟨Below.refl _ _⟩
  go_enter Try.func58, Try.ntmps58
  have q1 : (((w.alloc (Obj.cells #[.slice A0 s.length c0, .slice A1 d.length c1] 24)).alloc (Obj.cells #[.func (.func fw) #[] #[], .func (.func fe) #[] #[]] 86)).alloc (Obj.cells #[.slice none 0 0, .slice none 0 0] 24)).cell? ⟨w.heap.size, 0, none⟩ = some (.slice A0 s.length c0) := (blk_cell (blk_fold w [Obj.cells #[.slice A0 s.length c0, .slice A1 d.length c1] 24, Obj.cells #[.func (.func fw) #[] #[], .func (.func fe) #[] #[]] 86, Obj.cells #[.slice none 0 0, .slice none 0 0] 24] 0 _ rfl) 0).trans rfl
  have q2 : (((w.alloc (Obj.cells #[.slice A0 s.length c0, .slice A1 d.length c1] 24)).alloc (Obj.cells #[.func (.func fw) #[] #[], .func (.func fe) #[] #[]] 86)).alloc (Obj.cells #[.slice none 0 0, .slice none 0 0] 24)).cell? ⟨w.heap.size, 1, none⟩ = some (.slice A1 d.length c1) := (blk_cell (blk_fold w [Obj.cells #[.slice A0 s.length c0, .slice A1 d.length c1] 24, Obj.cells #[.func (.func fw) #[] #[], .func (.func fe) #[] #[]] 86, Obj.cells #[.slice none 0 0, .slice none 0 0] 24] 0 _ rfl) 1).trans rfl
  obtain ⟨wu3, hwu3⟩ : ∃ u, (((w.alloc (Obj.cells #[.slice A0 s.length c0, .slice A1 d.length c1] 24)).alloc (Obj.cells #[.func (.func fw) #[] #[], .func (.func fe) #[] #[]] 86)).alloc (Obj.cells #[.slice none 0 0, .slice none 0 0] 24)) = u := ⟨_, rfl⟩
  have hbwu3 : Below w.heap.size w wu3 := by rw [← hwu3]; exact below_fold w [Obj.cells #[.slice A0 s.length c0, .slice A1 d.length c1] 24, Obj.cells #[.func (.func fw) #[] #[], .func (.func fe) #[] #[]] 86, Obj.cells #[.slice none 0 0, .slice none 0 0] 24]
  have S4 : Aside0 (wu3.heap.size = w.heap.size + 3) := ⟨by rw [← hwu3]; exact size_fold w [Obj.cells #[.slice A0 s.length c0, .slice A1 d.length c1] 24, Obj.cells #[.func (.func fw) #[] #[], .func (.func fe) #[] #[]] 86, Obj.cells #[.slice none 0 0, .slice none 0 0] 24]⟩
  have BX_t : Aside0 (wu3.heap[w.heap.size]? = some (.cells #[.slice A0 s.length c0, .slice A1 d.length c1] 24 (0, 0))) := ⟨by rw [← hwu3]; exact blk_fold w [Obj.cells #[.slice A0 s.length c0, .slice A1 d.length c1] 24, Obj.cells #[.func (.func fw) #[] #[], .func (.func fe) #[] #[]] 86, Obj.cells #[.slice none 0 0, .slice none 0 0] 24] 0 _ rfl⟩
  have BX_w : Aside0 (wu3.heap[w.heap.size + 1]? = some (.cells #[.func (.func fw) #[] #[], .func (.func fe) #[] #[]] 86 (0, 0))) := ⟨by rw [← hwu3]; exact blk_fold w [Obj.cells #[.slice A0 s.length c0, .slice A1 d.length c1] 24, Obj.cells #[.func (.func fw) #[] #[], .func (.func fe) #[] #[]] 86, Obj.cells #[.slice none 0 0, .slice none 0 0] 24] 1 _ rfl⟩
  have BX_r : Aside0 (wu3.heap[w.heap.size + 1 + 1]? = some (.cells #[.slice none 0 0, .slice none 0 0] 24 (0, 0))) := ⟨by rw [← hwu3]; exact blk_fold w [Obj.cells #[.slice A0 s.length c0, .slice A1 d.length c1] 24, Obj.cells #[.func (.func fw) #[] #[], .func (.func fe) #[] #[]] 86, Obj.cells #[.slice none 0 0, .slice none 0 0] 24] 2 _ rfl⟩
  replace BW := Aside0.mk (below_then BW.out BW.out.size hbwu3)
  have Hwu3 := Aside0.mk hwu3
  clear hbwu3 hwu3
  go_wp2_with fail
  rw [Hwu3.out]
  clear q1 q2
  clear Hwu3
  refine (lanes_untrue A0 c0 s A1 c1 d ax _ (R0_a.out.below BW.out) HT.out).mono ?_
  rintro e v5 ⟨rfl, hb⟩
  replace BX_t := Aside0.mk (blk_below BX_t.out hb)
  replace BX_w := Aside0.mk (blk_below BX_w.out hb)
  replace BX_r := Aside0.mk (blk_below BX_r.out hb)
  replace BW := Aside0.mk (below_then BW.out BW.out.size hb)
  have S6 : Aside0 (wu3.heap.size ≤ v5.heap.size) := ⟨hb.size⟩
  clear hb
  have q7 : (v5.alloc (Obj.cells #[.int .i64 0, .int .i64 0, .int .i64 0] 91)).cell? ⟨w.heap.size + 1 + 1, 0, none⟩ = some (.slice none 0 0) := (blk_cell (blk_below BX_r.out (below_fold v5 [Obj.cells #[.int .i64 0, .int .i64 0, .int .i64 0] 91])) 0).trans rfl
  have q8 : (v5.alloc (Obj.cells #[.int .i64 0, .int .i64 0, .int .i64 0] 91)).cell? ⟨w.heap.size + 1 + 1, 1, none⟩ = some (.slice none 0 0) := (blk_cell (blk_below BX_r.out (below_fold v5 [Obj.cells #[.int .i64 0, .int .i64 0, .int .i64 0] 91])) 1).trans rfl
  have q9 : (v5.alloc (Obj.cells #[.int .i64 0, .int .i64 0, .int .i64 0] 91)).frozen? ⟨w.heap.size + 1 + 1, 0, none⟩ = false := blk_frozen (blk_below BX_r.out (below_fold v5 [Obj.cells #[.int .i64 0, .int .i64 0, .int .i64 0] 91])) 0
  have q10 : (v5.alloc (Obj.cells #[.int .i64 0, .int .i64 0, .int .i64 0] 91)).frozen? ⟨w.heap.size + 1 + 1, 1, none⟩ = false := blk_frozen (blk_below BX_r.out (below_fold v5 [Obj.cells #[.int .i64 0, .int .i64 0, .int .i64 0] 91])) 1
  obtain ⟨wu11, hwu11⟩ : ∃ u, (v5.alloc (Obj.cells #[.int .i64 0, .int .i64 0, .int .i64 0] 91)) = u := ⟨_, rfl⟩
  have hbwu11 : Below v5.heap.size v5 wu11 := by rw [← hwu11]; exact below_fold v5 [Obj.cells #[.int .i64 0, .int .i64 0, .int .i64 0] 91]
  have S12 : Aside0 (wu11.heap.size = v5.heap.size + 1) := ⟨by rw [← hwu11]; exact size_fold v5 [Obj.cells #[.int .i64 0, .int .i64 0, .int .i64 0] 91]⟩
  replace BX_t := Aside0.mk (blk_below BX_t.out hbwu11)
  replace BX_w := Aside0.mk (blk_below BX_w.out hbwu11)
  replace BX_r := Aside0.mk (blk_below BX_r.out hbwu11)
  have BX_l : Aside0 (wu11.heap[v5.heap.size]? = some (.cells #[.int .i64 0, .int .i64 0, .int .i64 0] 91 (0, 0))) := ⟨by rw [← hwu11]; exact blk_fold v5 [Obj.cells #[.int .i64 0, .int .i64 0, .int .i64 0] 91] 0 _ rfl⟩
  replace BW := Aside0.mk (below_then BW.out BW.out.size hbwu11)
  have Hwu11 := Aside0.mk hwu11
  clear hbwu11 hwu11
  go_wp2_with fail
  rw [Hwu11.out]
  clear q7 q8 q9 q10
  clear Hwu11
  refine end_err (fn := Try.f58) rfl _ w wu11 _ 30 rfl rfl BW.out (by have := S4.out; have := S6.out; have := S12.out; omega) BX_r.out _ EV.out
set_option maxRecDepth 100000 in
theorem tog_unfit (fw fe ff : Nat) (Fw Fe : Int → Int → Int × Int) (Ff : Int → Int) (hw : IsTwo fw Fw) (he : IsTwo fe Fe) (hf : IsFrom ff Ff) (A0 : Option Addr) (c0 : Nat) (s : List Int) (A1 : Option Addr) (c1 : Nat) (d : List Int) (ax : Int) (w : World) (r0 : Rd w (.slice A0 s.length c0) s) (ht : tOk s d = true) (hx : ¬ (0 ≤ ax ∧ ax < s.length)) :
    Calls Try.prog 58 #[.agg #[.slice A0 s.length c0, .slice A1 d.length c1], .int .i64 ax, .agg #[.func (.func fw) #[] #[], .func (.func fe) #[] #[]], .func (.func ff) #[] #[]] w (TPost w (togR Fw Fe Ff s d ax)) := by
  have EV : Aside0 (togR Fw Fe Ff s d ax = (([], []), 20)) := ⟨by unfold togR; rw [if_pos ht, if_neg hx]⟩
  have HT := Aside0.mk ht
  have HX := Aside0.mk hx
  clear ht hx
  clear hw he hf
  have R0_a := Aside0.mk r0
  clear r0
  have BW : Aside0 (Below w.heap.size w w) := ⟨Below.refl _ _⟩
  go_enter Try.func58, Try.ntmps58
  have q1 : (((w.alloc (Obj.cells #[.slice A0 s.length c0, .slice A1 d.length c1] 24)).alloc (Obj.cells #[.func (.func fw) #[] #[], .func (.func fe) #[] #[]] 86)).alloc (Obj.cells #[.slice none 0 0, .slice none 0 0] 24)).cell? ⟨w.heap.size, 0, none⟩ = some (.slice A0 s.length c0) := (blk_cell (blk_fold w [Obj.cells #[.slice A0 s.length c0, .slice A1 d.length c1] 24, Obj.cells #[.func (.func fw) #[] #[], .func (.func fe) #[] #[]] 86, Obj.cells #[.slice none 0 0, .slice none 0 0] 24] 0 _ rfl) 0).trans rfl
  have q2 : (((w.alloc (Obj.cells #[.slice A0 s.length c0, .slice A1 d.length c1] 24)).alloc (Obj.cells #[.func (.func fw) #[] #[], .func (.func fe) #[] #[]] 86)).alloc (Obj.cells #[.slice none 0 0, .slice none 0 0] 24)).cell? ⟨w.heap.size, 1, none⟩ = some (.slice A1 d.length c1) := (blk_cell (blk_fold w [Obj.cells #[.slice A0 s.length c0, .slice A1 d.length c1] 24, Obj.cells #[.func (.func fw) #[] #[], .func (.func fe) #[] #[]] 86, Obj.cells #[.slice none 0 0, .slice none 0 0] 24] 0 _ rfl) 1).trans rfl
  obtain ⟨wu3, hwu3⟩ : ∃ u, (((w.alloc (Obj.cells #[.slice A0 s.length c0, .slice A1 d.length c1] 24)).alloc (Obj.cells #[.func (.func fw) #[] #[], .func (.func fe) #[] #[]] 86)).alloc (Obj.cells #[.slice none 0 0, .slice none 0 0] 24)) = u := ⟨_, rfl⟩
  have hbwu3 : Below w.heap.size w wu3 := by rw [← hwu3]; exact below_fold w [Obj.cells #[.slice A0 s.length c0, .slice A1 d.length c1] 24, Obj.cells #[.func (.func fw) #[] #[], .func (.func fe) #[] #[]] 86, Obj.cells #[.slice none 0 0, .slice none 0 0] 24]
  have S4 : Aside0 (wu3.heap.size = w.heap.size + 3) := ⟨by rw [← hwu3]; exact size_fold w [Obj.cells #[.slice A0 s.length c0, .slice A1 d.length c1] 24, Obj.cells #[.func (.func fw) #[] #[], .func (.func fe) #[] #[]] 86, Obj.cells #[.slice none 0 0, .slice none 0 0] 24]⟩
  have BX_t : Aside0 (wu3.heap[w.heap.size]? = some (.cells #[.slice A0 s.length c0, .slice A1 d.length c1] 24 (0, 0))) := ⟨by rw [← hwu3]; exact blk_fold w [Obj.cells #[.slice A0 s.length c0, .slice A1 d.length c1] 24, Obj.cells #[.func (.func fw) #[] #[], .func (.func fe) #[] #[]] 86, Obj.cells #[.slice none 0 0, .slice none 0 0] 24] 0 _ rfl⟩
  have BX_w : Aside0 (wu3.heap[w.heap.size + 1]? = some (.cells #[.func (.func fw) #[] #[], .func (.func fe) #[] #[]] 86 (0, 0))) := ⟨by rw [← hwu3]; exact blk_fold w [Obj.cells #[.slice A0 s.length c0, .slice A1 d.length c1] 24, Obj.cells #[.func (.func fw) #[] #[], .func (.func fe) #[] #[]] 86, Obj.cells #[.slice none 0 0, .slice none 0 0] 24] 1 _ rfl⟩
  have BX_r : Aside0 (wu3.heap[w.heap.size + 1 + 1]? = some (.cells #[.slice none 0 0, .slice none 0 0] 24 (0, 0))) := ⟨by rw [← hwu3]; exact blk_fold w [Obj.cells #[.slice A0 s.length c0, .slice A1 d.length c1] 24, Obj.cells #[.func (.func fw) #[] #[], .func (.func fe) #[] #[]] 86, Obj.cells #[.slice none 0 0, .slice none 0 0] 24] 2 _ rfl⟩
  replace BW := Aside0.mk (below_then BW.out BW.out.size hbwu3)
  have Hwu3 := Aside0.mk hwu3
  clear hbwu3 hwu3
  go_wp2_with fail
  rw [Hwu3.out]
  clear q1 q2
  clear Hwu3
  refine (lanes_unfit A0 c0 s A1 c1 d ax _ (R0_a.out.below BW.out) HT.out HX.out).mono ?_
  rintro e v5 ⟨rfl, hb⟩
  replace BX_t := Aside0.mk (blk_below BX_t.out hb)
  replace BX_w := Aside0.mk (blk_below BX_w.out hb)
  replace BX_r := Aside0.mk (blk_below BX_r.out hb)
  replace BW := Aside0.mk (below_then BW.out BW.out.size hb)
  have S6 : Aside0 (wu3.heap.size ≤ v5.heap.size) := ⟨hb.size⟩
  clear hb
  have q7 : (v5.alloc (Obj.cells #[.int .i64 0, .int .i64 0, .int .i64 0] 91)).cell? ⟨w.heap.size + 1 + 1, 0, none⟩ = some (.slice none 0 0) := (blk_cell (blk_below BX_r.out (below_fold v5 [Obj.cells #[.int .i64 0, .int .i64 0, .int .i64 0] 91])) 0).trans rfl
  have q8 : (v5.alloc (Obj.cells #[.int .i64 0, .int .i64 0, .int .i64 0] 91)).cell? ⟨w.heap.size + 1 + 1, 1, none⟩ = some (.slice none 0 0) := (blk_cell (blk_below BX_r.out (below_fold v5 [Obj.cells #[.int .i64 0, .int .i64 0, .int .i64 0] 91])) 1).trans rfl
  have q9 : (v5.alloc (Obj.cells #[.int .i64 0, .int .i64 0, .int .i64 0] 91)).frozen? ⟨w.heap.size + 1 + 1, 0, none⟩ = false := blk_frozen (blk_below BX_r.out (below_fold v5 [Obj.cells #[.int .i64 0, .int .i64 0, .int .i64 0] 91])) 0
  have q10 : (v5.alloc (Obj.cells #[.int .i64 0, .int .i64 0, .int .i64 0] 91)).frozen? ⟨w.heap.size + 1 + 1, 1, none⟩ = false := blk_frozen (blk_below BX_r.out (below_fold v5 [Obj.cells #[.int .i64 0, .int .i64 0, .int .i64 0] 91])) 1
  obtain ⟨wu11, hwu11⟩ : ∃ u, (v5.alloc (Obj.cells #[.int .i64 0, .int .i64 0, .int .i64 0] 91)) = u := ⟨_, rfl⟩
  have hbwu11 : Below v5.heap.size v5 wu11 := by rw [← hwu11]; exact below_fold v5 [Obj.cells #[.int .i64 0, .int .i64 0, .int .i64 0] 91]
  have S12 : Aside0 (wu11.heap.size = v5.heap.size + 1) := ⟨by rw [← hwu11]; exact size_fold v5 [Obj.cells #[.int .i64 0, .int .i64 0, .int .i64 0] 91]⟩
  replace BX_t := Aside0.mk (blk_below BX_t.out hbwu11)
  replace BX_w := Aside0.mk (blk_below BX_w.out hbwu11)
  replace BX_r := Aside0.mk (blk_below BX_r.out hbwu11)
  have BX_l : Aside0 (wu11.heap[v5.heap.size]? = some (.cells #[.int .i64 0, .int .i64 0, .int .i64 0] 91 (0, 0))) := ⟨by rw [← hwu11]; exact blk_fold v5 [Obj.cells #[.int .i64 0, .int .i64 0, .int .i64 0] 91] 0 _ rfl⟩
  replace BW := Aside0.mk (below_then BW.out BW.out.size hbwu11)
  have Hwu11 := Aside0.mk hwu11
  clear hbwu11 hwu11
  go_wp2_with fail
  rw [Hwu11.out]
  clear q7 q8 q9 q10
  clear Hwu11
  refine end_err (fn := Try.f58) rfl _ w wu11 _ 20 rfl rfl BW.out (by have := S4.out; have := S6.out; have := S12.out; omega) BX_r.out _ EV.out
set_option maxRecDepth 100000 in
theorem tog_ok (fw fe ff : Nat) (Fw Fe : Int → Int → Int × Int) (Ff : Int → Int) (hw : IsTwo fw Fw) (he : IsTwo fe Fe) (hf : IsFrom ff Ff) (A0 : Option Addr) (c0 : Nat) (s : List Int) (A1 : Option Addr) (c1 : Nat) (d : List Int) (hIw : ∀ a b, isI64 a → isI64 b → isI64 (Fw a b).1) (hIf : ∀ a, isI64 a → isI64 (Ff a)) (a : Nat) (w : World) (r0 : Rd w (.slice A0 s.length c0) s) (r1 : Rd w (.slice A1 d.length c1) d) (i1 : allI d) (ht : tOk s d = true) (ha : a < s.length) :
    Calls Try.prog 58 #[.agg #[.slice A0 s.length c0, .slice A1 d.length c1], .int .i64 (a : Nat), .agg #[.func (.func fw) #[] #[], .func (.func fe) #[] #[]], .func (.func ff) #[] #[]] w (TPost w (togR Fw Fe Ff s d (a : Nat))) := by
  have hs := ((tOk_iff _ _).1 ht).1
  have hl := shapeOk_len hs
  obtain ⟨eok, e1, e2, e3, e4⟩ := erase_ok hs ha
  have hdl := ((tOk_iff _ _).1 ht).2
  have sb := side_bd hs ha
  have hsd : rd s (a : Nat) = (sdOf s a : Int) := by unfold sdOf; omega
  have EV : Aside0 (togR Fw Fe Ff s d (a : Nat) = eachR (togG Fw Fe Ff d (sdOf s a) (bhOf s a)) (s.eraseIdx a)) := ⟨by unfold togR; rw [if_pos ht, if_pos ⟨by omega, by omega⟩]; simp only [Int.toNat_natCast]⟩
  obtain ⟨sd, hsd'⟩ : ∃ x, sdOf s a = x := ⟨_, rfl⟩
  obtain ⟨bh, hbh⟩ : ∃ x, bhOf s a = x := ⟨_, rfl⟩
  obtain ⟨ah, hah⟩ : ∃ x, sizeS (s.take a) = x := ⟨_, rfl⟩
  obtain ⟨N, hN⟩ : ∃ x, ah * bh = x := ⟨_, rfl⟩
  rw [hsd'] at EV e2 hsd
  rw [hbh] at EV e1 e2 e3
  rw [hah] at e1 e2 e4
  rw [hN] at e1
  have h64 := sizeS_le s
  have hNle : N ≤ 64 := by rw [← e1]; exact sizeS_le _
  have hLT : ∀ p i, p < N → i < sd → laneAt sd bh p i < d.length := fun p i hp hi => by rw [hdl, e2]; exact lane_lt (by rw [hN]; exact hp) hi e3
  have hsd1 : 1 ≤ sd := by omega
  have hsd16 : sd ≤ 16 := by omega
  have hbh64 : bh ≤ 64 := by rw [← hbh]; exact sizeS_le _
  have hdp : 0 < d.length ∧ d.length ≤ 64 := by have := sizeS_pos hs; omega
  have ML : (ah : Int) * (bh : Int) = (N : Int) := by rw [← hN]; simp
  have MW : IntKind.i64.wrap (N : Int) = (N : Int) := wrap_in _ ⟨by omega, by omega⟩
  have AW : IntKind.i64.wrap ((a : Int) + 1) = (a : Int) + 1 := wrap_in _ ⟨by omega, by omega⟩
  obtain ⟨ad1, rfl, _⟩ := Kd.at_int r1.c.1 0 (by omega) (by omega)
  have FACT := Aside0.mk (And.intro hNle (And.intro hsd1 (And.intro hsd16 (And.intro e3 (And.intro hbh64 hdp)))))
  have LT := Aside0.mk hLT
  have HT := Aside0.mk ht
  have HE := Aside0.mk e1
  have LN : Aside0 (∀ W, Below w.heap.size w W → Calls Try.prog 72 #[.agg #[.slice A0 s.length c0, .slice (some ad1) d.length c1], .int .i64 (a : Nat)] W fun e w' => e = .returned (.tuple #[.agg #[.int .i64 ah, .int .i64 sd, .int .i64 bh], .int .i64 0]) ∧ Below W.heap.size W w') := ⟨fun W hW => by
    have h := lanes_ok A0 c0 s (some ad1) c1 d a W (r0.below hW) ht ha
    rw [hah, show sizeS (s.drop (a + 1)) = bh from hbh, hsd] at h; exact h⟩
  have HI := Aside0.mk i1
  have R0_d := Aside0.mk r1
  have HW := Aside0.mk hw.2
  have HE2 := Aside0.mk he.2
  have HF := Aside0.mk hf.2
  have cw := hw.1
  have ce := he.1
  have cf := hf.1
  have HIW := Aside0.mk (And.intro hIw hIf)
  have HA' := Aside0.mk ha
  clear hw he hf hIw hIf hs hl eok e1 e2 e3 e4 hdl sb hsd hsd' hbh hah hN hNle hLT hsd1 hsd16 hbh64 hdp ht i1 r1 h64 ha
  have R0_a := Aside0.mk r0
  clear r0
  have BW : Aside0 (Below w.heap.size w w) := ⟨Below.refl _ _⟩
  go_enter Try.func58, Try.ntmps58
  have q1 : (((w.alloc (Obj.cells #[.slice A0 s.length c0, .slice (some ad1) d.length c1] 24)).alloc (Obj.cells #[.func (.func fw) #[] #[], .func (.func fe) #[] #[]] 86)).alloc (Obj.cells #[.slice none 0 0, .slice none 0 0] 24)).cell? ⟨w.heap.size, 0, none⟩ = some (.slice A0 s.length c0) := (blk_cell (blk_fold w [Obj.cells #[.slice A0 s.length c0, .slice (some ad1) d.length c1] 24, Obj.cells #[.func (.func fw) #[] #[], .func (.func fe) #[] #[]] 86, Obj.cells #[.slice none 0 0, .slice none 0 0] 24] 0 _ rfl) 0).trans rfl
  have q2 : (((w.alloc (Obj.cells #[.slice A0 s.length c0, .slice (some ad1) d.length c1] 24)).alloc (Obj.cells #[.func (.func fw) #[] #[], .func (.func fe) #[] #[]] 86)).alloc (Obj.cells #[.slice none 0 0, .slice none 0 0] 24)).cell? ⟨w.heap.size, 1, none⟩ = some (.slice (some ad1) d.length c1) := (blk_cell (blk_fold w [Obj.cells #[.slice A0 s.length c0, .slice (some ad1) d.length c1] 24, Obj.cells #[.func (.func fw) #[] #[], .func (.func fe) #[] #[]] 86, Obj.cells #[.slice none 0 0, .slice none 0 0] 24] 0 _ rfl) 1).trans rfl
  obtain ⟨wu3, hwu3⟩ : ∃ u, (((w.alloc (Obj.cells #[.slice A0 s.length c0, .slice (some ad1) d.length c1] 24)).alloc (Obj.cells #[.func (.func fw) #[] #[], .func (.func fe) #[] #[]] 86)).alloc (Obj.cells #[.slice none 0 0, .slice none 0 0] 24)) = u := ⟨_, rfl⟩
  have hbwu3 : Below w.heap.size w wu3 := by rw [← hwu3]; exact below_fold w [Obj.cells #[.slice A0 s.length c0, .slice (some ad1) d.length c1] 24, Obj.cells #[.func (.func fw) #[] #[], .func (.func fe) #[] #[]] 86, Obj.cells #[.slice none 0 0, .slice none 0 0] 24]
  have S4 : Aside0 (wu3.heap.size = w.heap.size + 3) := ⟨by rw [← hwu3]; exact size_fold w [Obj.cells #[.slice A0 s.length c0, .slice (some ad1) d.length c1] 24, Obj.cells #[.func (.func fw) #[] #[], .func (.func fe) #[] #[]] 86, Obj.cells #[.slice none 0 0, .slice none 0 0] 24]⟩
  have BX_t : Aside0 (wu3.heap[w.heap.size]? = some (.cells #[.slice A0 s.length c0, .slice (some ad1) d.length c1] 24 (0, 0))) := ⟨by rw [← hwu3]; exact blk_fold w [Obj.cells #[.slice A0 s.length c0, .slice (some ad1) d.length c1] 24, Obj.cells #[.func (.func fw) #[] #[], .func (.func fe) #[] #[]] 86, Obj.cells #[.slice none 0 0, .slice none 0 0] 24] 0 _ rfl⟩
  have BX_w : Aside0 (wu3.heap[w.heap.size + 1]? = some (.cells #[.func (.func fw) #[] #[], .func (.func fe) #[] #[]] 86 (0, 0))) := ⟨by rw [← hwu3]; exact blk_fold w [Obj.cells #[.slice A0 s.length c0, .slice (some ad1) d.length c1] 24, Obj.cells #[.func (.func fw) #[] #[], .func (.func fe) #[] #[]] 86, Obj.cells #[.slice none 0 0, .slice none 0 0] 24] 1 _ rfl⟩
  have BX_r : Aside0 (wu3.heap[w.heap.size + 1 + 1]? = some (.cells #[.slice none 0 0, .slice none 0 0] 24 (0, 0))) := ⟨by rw [← hwu3]; exact blk_fold w [Obj.cells #[.slice A0 s.length c0, .slice (some ad1) d.length c1] 24, Obj.cells #[.func (.func fw) #[] #[], .func (.func fe) #[] #[]] 86, Obj.cells #[.slice none 0 0, .slice none 0 0] 24] 2 _ rfl⟩
  replace BW := Aside0.mk (below_then BW.out BW.out.size hbwu3)
  have Hwu3 := Aside0.mk hwu3
  clear hbwu3 hwu3
  go_wp2_with fail
  rw [Hwu3.out]
  clear q1 q2
  clear Hwu3
  refine (LN.out _ BW.out).mono ?_
  rintro e v5 ⟨rfl, hb⟩
  replace BX_t := Aside0.mk (blk_below BX_t.out hb)
  replace BX_w := Aside0.mk (blk_below BX_w.out hb)
  replace BX_r := Aside0.mk (blk_below BX_r.out hb)
  replace BW := Aside0.mk (below_then BW.out BW.out.size hb)
  have S6 : Aside0 (wu3.heap.size ≤ v5.heap.size) := ⟨hb.size⟩
  clear hb
  have q7 : (v5.alloc (Obj.cells #[.int .i64 ah, .int .i64 sd, .int .i64 bh] 91)).cell? ⟨w.heap.size, 0, none⟩ = some (.slice A0 s.length c0) := (blk_cell (blk_below BX_t.out (below_fold v5 [Obj.cells #[.int .i64 ah, .int .i64 sd, .int .i64 bh] 91])) 0).trans rfl
  obtain ⟨wu8, hwu8⟩ : ∃ u, (v5.alloc (Obj.cells #[.int .i64 ah, .int .i64 sd, .int .i64 bh] 91)) = u := ⟨_, rfl⟩
  have hbwu8 : Below v5.heap.size v5 wu8 := by rw [← hwu8]; exact below_fold v5 [Obj.cells #[.int .i64 ah, .int .i64 sd, .int .i64 bh] 91]
  have S9 : Aside0 (wu8.heap.size = v5.heap.size + 1) := ⟨by rw [← hwu8]; exact size_fold v5 [Obj.cells #[.int .i64 ah, .int .i64 sd, .int .i64 bh] 91]⟩
  replace BX_t := Aside0.mk (blk_below BX_t.out hbwu8)
  replace BX_w := Aside0.mk (blk_below BX_w.out hbwu8)
  replace BX_r := Aside0.mk (blk_below BX_r.out hbwu8)
  have BX_l : Aside0 (wu8.heap[v5.heap.size]? = some (.cells #[.int .i64 ah, .int .i64 sd, .int .i64 bh] 91 (0, 0))) := ⟨by rw [← hwu8]; exact blk_fold v5 [Obj.cells #[.int .i64 ah, .int .i64 sd, .int .i64 bh] 91] 0 _ rfl⟩
  replace BW := Aside0.mk (below_then BW.out BW.out.size hbwu8)
  have Hwu8 := Aside0.mk hwu8
  clear hbwu8 hwu8
  go_wp2_with fail
  rw [Hwu8.out]
  clear q7
  clear Hwu8
  refine (slices_Clone_int_int.calls A0 c0 s s wu8 (R0_a.out.below BW.out).c.1 (R0_a.out.below BW.out).c.2 (by unfold slices_Clone_int_int.f; rw [if_pos (by have := shapeOk_len ((tOk_iff _ _).1 HT.out).1; omega)])).mono ?_
  rintro e v1 ⟨v0, rfl, hr, hb1⟩
  have OW := Aside0.mk (ofR hr)
  obtain ⟨Av, cv, rfl⟩ := own_slice OW.out
  have HB1 := Aside0.mk hb1
  clear hr hb1
  go_wp2_with fail
  refine (del_own a v1 OW.out HA'.out).mono ?_
  rintro e v2 ⟨Ae, ce', rfl, ho, hb2⟩
  have hb := HB1.out.trans hb2
  have RN_s := Aside0.mk (RdN.of_ownsRow ho)
  replace BX_t := Aside0.mk (blk_below BX_t.out hb)
  replace BX_w := Aside0.mk (blk_below BX_w.out hb)
  replace BX_r := Aside0.mk (blk_below BX_r.out hb)
  replace BX_l := Aside0.mk (blk_below BX_l.out hb)
  replace BW := Aside0.mk (below_then BW.out BW.out.size hb)
  have S10 : Aside0 (wu8.heap.size ≤ v2.heap.size) := ⟨hb.size⟩
  clear hb hb2 ho OW HB1
  have KP_v2 : Aside0 (Kp [] v2 v2) := ⟨Kp.refl _ _⟩
  have q11 : (v2.alloc (Obj.cells #[.slice Ae (s.eraseIdx a).length ce', .slice none 0 0] 24)).cell? ⟨v5.heap.size, 0, none⟩ = some (.int .i64 ah) := (blk_cell (blk_below BX_l.out (below_fold v2 [Obj.cells #[.slice Ae (s.eraseIdx a).length ce', .slice none 0 0] 24])) 0).trans rfl
  have q12 : (v2.alloc (Obj.cells #[.slice Ae (s.eraseIdx a).length ce', .slice none 0 0] 24)).cell? ⟨v5.heap.size, 2, none⟩ = some (.int .i64 bh) := (blk_cell (blk_below BX_l.out (below_fold v2 [Obj.cells #[.slice Ae (s.eraseIdx a).length ce', .slice none 0 0] 24])) 2).trans rfl
  obtain ⟨wu13, hwu13⟩ : ∃ u, (v2.alloc (Obj.cells #[.slice Ae (s.eraseIdx a).length ce', .slice none 0 0] 24)) = u := ⟨_, rfl⟩
  have hbwu13 : Below v2.heap.size v2 wu13 := by rw [← hwu13]; exact below_fold v2 [Obj.cells #[.slice Ae (s.eraseIdx a).length ce', .slice none 0 0] 24]
  have S14 : Aside0 (wu13.heap.size = v2.heap.size + 1) := ⟨by rw [← hwu13]; exact size_fold v2 [Obj.cells #[.slice Ae (s.eraseIdx a).length ce', .slice none 0 0] 24]⟩
  replace BX_t := Aside0.mk (blk_below BX_t.out hbwu13)
  replace BX_w := Aside0.mk (blk_below BX_w.out hbwu13)
  replace BX_r := Aside0.mk (blk_below BX_r.out hbwu13)
  replace BX_l := Aside0.mk (blk_below BX_l.out hbwu13)
  replace KP_v2 := Aside0.mk (KP_v2.out.below hbwu13)
  have BX_o : Aside0 (wu13.heap[v2.heap.size]? = some (.cells #[.slice Ae (s.eraseIdx a).length ce', .slice none 0 0] 24 (0, 0))) := ⟨by rw [← hwu13]; exact blk_fold v2 [Obj.cells #[.slice Ae (s.eraseIdx a).length ce', .slice none 0 0] 24] 0 _ rfl⟩
  replace BW := Aside0.mk (below_then BW.out BW.out.size hbwu13)
  have Hwu13 := Aside0.mk hwu13
  clear hbwu13 hwu13
  go_wp2_with fail
  rw [Hwu13.out]
  clear q11 q12
  clear Hwu13
  go_loopg [39] (N) (fun g_ y39 wr => ∃ (k : Nat) (dv : Value), y39 = .int .i64 k ∧ Aside0 (Kp [v2.heap.size] wu13 wr) ∧ Aside0 (Below w.heap.size w wr) ∧ Aside0 (wr.ownsRow wu13.heap.size 3 1 dv (dataG (togG Fw Fe Ff d sd bh) k).length (nums .i64 (dataG (togG Fw Fe Ff d sd bh) k))) ∧ Aside0 (wr.heap[v2.heap.size]? = some (.cells #[.slice Ae (s.eraseIdx a).length ce', dv] 24 (0, 0))) ∧ Aside0 (k ≤ N ∧ g_ = N - k ∧ errG (togG Fw Fe Ff d sd bh) k = 0))
  case atStart => exact ⟨0, .slice none 0 0, rfl, ⟨Kp.refl _ _⟩, BW, ⟨own_nil _ _ _ _⟩, ⟨BX_o.out⟩, ⟨Nat.zero_le _, (Nat.sub_zero _).symm, rfl⟩⟩
  case round =>
    obtain ⟨k, dv, rfl, KPL, BWL, hO, hB, HAk⟩ := hrel
    obtain ⟨w4, rfl⟩ : ∃ x, x = wr := ⟨_, rfl⟩
    obtain ⟨hlek, hgk, hpk⟩ := HAk.out
    clear HAk
    replace BX_t := Aside0.mk (KPL.out.blk BX_t.out (by simp only [List.mem_cons, List.not_mem_nil, or_false, not_or]; have := S4.out; have := S6.out; have := S9.out; have := S10.out; have := S14.out; omega))
    replace BX_w := Aside0.mk (KPL.out.blk BX_w.out (by simp only [List.mem_cons, List.not_mem_nil, or_false, not_or]; have := S4.out; have := S6.out; have := S9.out; have := S10.out; have := S14.out; omega))
    replace BX_r := Aside0.mk (KPL.out.blk BX_r.out (by simp only [List.mem_cons, List.not_mem_nil, or_false, not_or]; have := S4.out; have := S6.out; have := S9.out; have := S10.out; have := S14.out; omega))
    replace BX_l := Aside0.mk (KPL.out.blk BX_l.out (by simp only [List.mem_cons, List.not_mem_nil, or_false, not_or]; have := S4.out; have := S6.out; have := S9.out; have := S10.out; have := S14.out; omega))
    replace KP_v2 := Aside0.mk (KP_v2.out.trans KPL.out (fun g_ hg_ => by simp only [List.mem_cons, List.not_mem_nil, or_false] at hg_ ⊢; have := S4.out; have := S6.out; have := S9.out; have := S10.out; have := S14.out; omega))
    replace BW := BWL
    clear BWL
    have S15 : Aside0 (wu13.heap.size ≤ w4.heap.size) := ⟨KPL.out.1⟩
    have KP_wu13 := KPL
    clear KPL
    obtain ⟨Ad, cd, rfl⟩ := own_slice hO.out
    replace BX_o := hB
    have OWN_o := hO
    clear hB hO
    obtain ⟨f1, f2, f3, f4, f5, f6, f7⟩ := FACT.out
    by_cases hltk : k < N
    case pos =>
      have c1_k : decide ((k : Int) < (N : Int)) = true := by simpa using hltk
      have c2_k : decide (k < N) = true := by simpa using hltk
      have PW : IntKind.i64.wrap ((k : Int) + 1) = ((k + 1 : Nat) : Int) := by rw [wrap_in _ ⟨by omega, by omega⟩]; omega
      obtain ⟨x0, hx0⟩ : ∃ x, rd d (laneAt sd bh k 0 : Nat) = x := ⟨_, rfl⟩
      obtain ⟨j0, hj0⟩ : ∃ x, laneAt sd bh k 0 = x := ⟨_, rfl⟩
      have hj : j0 < d.length := by rw [← hj0]; exact LT.out k 0 hltk (by omega)
      obtain ⟨_, hada, hc0⟩ := Kd.at_int (R0_d.out.below BW.out).c.1 (j0 : Int) (by omega) (by omega)
      cases hada
      simp only [Int.toNat_natCast] at hc0
      have X0 := Aside0.mk hx0
      rw [hj0] at hx0
      rw [hx0] at hc0
      have AT : Aside0 (∀ W' : World, Calls Try.prog 73 #[.agg #[.int .i64 ah, .int .i64 sd, .int .i64 bh], .int .i64 k, .int .i64 0] W' fun e w' => e = .returned (.int .i64 (j0 : Nat)) ∧ Below W'.heap.size W' w') := ⟨fun W' => by have h := at_any ah sd bh k 0 W' (by omega) (by omega) (by omega) (by omega) (by omega); rw [hj0] at h; exact h⟩
      have IX : Aside0 (isI64 x0) := ⟨by rw [← hx0]; exact HI.out _ (rd_mem _ _ hj)⟩
      have qt : w4.cell? ⟨w.heap.size, 1, none⟩ = some (.slice (some ad1) d.length c1) := (blk_cell BX_t.out 1).trans rfl
      have ql0 : w4.cell? ⟨v5.heap.size, 0, none⟩ = some (.int .i64 ah) := (blk_cell BX_l.out 0).trans rfl
      have ql1 : w4.cell? ⟨v5.heap.size, 1, none⟩ = some (.int .i64 sd) := (blk_cell BX_l.out 1).trans rfl
      have ql2 : w4.cell? ⟨v5.heap.size, 2, none⟩ = some (.int .i64 bh) := (blk_cell BX_l.out 2).trans rfl
      have hj' : ((j0 : Nat) : Int) < (d.length : Int) := by omega
      obtain ⟨n0, hn0⟩ : ∃ x, Ff x0 = x := ⟨_, rfl⟩
      have FF := Aside0.mk (HF.out x0 IX.out)
      rw [hn0] at FF
      have IN0 : Aside0 (isI64 n0) := ⟨by rw [← hn0]; exact HIW.out.2 _ IX.out⟩
      have N0 : Aside0 (Ff (rd d (laneAt sd bh k 0 : Nat)) = n0) := ⟨by rw [X0.out, hn0]⟩
      clear hj0 hx0 hn0 X0
      have HPK := Aside0.mk (And.intro hpk (And.intro hgk hltk))
      clear hpk hgk hlek
      go_wp2_with fail
      go_region_held3 (fun w' => w'.cell? ⟨w.heap.size, 1, none⟩ = some (.slice (some ad1) d.length c1) ∧ w'.cell? ⟨v5.heap.size, 0, none⟩ = some (.int .i64 ah) ∧ w'.cell? ⟨v5.heap.size, 1, none⟩ = some (.int .i64 sd) ∧ w'.cell? ⟨v5.heap.size, 2, none⟩ = some (.int .i64 bh) ∧ w'.cell? (ad1.add j0) = some (.int .i64 x0)) (first | (exact ⟨qt, ql0, ql1, ql2, hc0⟩) | (exact ⟨pw_cell_below hba qt, pw_cell_below hba ql0, pw_cell_below hba ql1, pw_cell_below hba ql2, pw_cell_below hba hc0⟩) | (exact ⟨pw_cell_below hbb (pw_cell_below hba qt), pw_cell_below hbb (pw_cell_below hba ql0), pw_cell_below hbb (pw_cell_below hba ql1), pw_cell_below hbb (pw_cell_below hba ql2), pw_cell_below hbb (pw_cell_below hba hc0)⟩))
        (first | ((with_reducible refine (AT.out _).mono ?_); rintro e wa ⟨rfl, hba⟩) | ((with_reducible refine (FF.out _).mono ?_); rintro e wb ⟨rfl, hbb⟩))
      have hb := below_then (below_undrew hba) (below_undrew hba).size hbb
      replace BX_t := Aside0.mk (blk_below BX_t.out hb)
      replace BX_w := Aside0.mk (blk_below BX_w.out hb)
      replace BX_r := Aside0.mk (blk_below BX_r.out hb)
      replace BX_l := Aside0.mk (blk_below BX_l.out hb)
      replace BX_o := Aside0.mk (blk_below BX_o.out hb)
      replace KP_v2 := Aside0.mk (KP_v2.out.below hb)
      replace KP_wu13 := Aside0.mk (KP_wu13.out.below hb)
      replace OWN_o := Aside0.mk (own_keep OWN_o.out (fun g_ _ hg_ => hb.block g_ hg_))
      replace BW := Aside0.mk (below_then BW.out BW.out.size hb)
      have S16 : Aside0 (w4.heap.size ≤ wb.heap.size) := ⟨hb.size⟩
      clear hb hba hbb qt ql0 ql1 ql2 hc0 hj' hj AT FF IX
      have q17 : wb.cell? ⟨v5.heap.size, 1, none⟩ = some (.int .i64 sd) := (blk_cell BX_l.out 1).trans rfl
      go_wp2_with fail
      clear q17
      go_loopg [14, 53] (sd) (fun g_ y14 y53 wr => ∃ (i : Nat) (n : Int), y14 = .int .i64 n ∧ y53 = .int .i64 i ∧ Aside0 (Kp [] wb wr) ∧ Aside0 (Below w.heap.size w wr) ∧ Aside0 (i ≤ sd ∧ g_ = sd - i ∧ foldN Fw n0 (fun i => rd d (laneAt sd bh k i : Nat)) i = (n, 0)))
      case atStart => exact ⟨0, n0, rfl, rfl, ⟨Kp.refl _ _⟩, BW, ⟨Nat.zero_le _, (Nat.sub_zero _).symm, rfl⟩⟩
      case round =>
        obtain ⟨i, n, rfl, rfl, KPL, BWL, HAi⟩ := hrel
        obtain ⟨w6, rfl⟩ : ∃ x, x = wr := ⟨_, rfl⟩
        obtain ⟨hlei, hgi, hpi⟩ := HAi.out
        clear HAi
        replace BX_t := Aside0.mk (KPL.out.blk BX_t.out (by simp))
        replace BX_w := Aside0.mk (KPL.out.blk BX_w.out (by simp))
        replace BX_r := Aside0.mk (KPL.out.blk BX_r.out (by simp))
        replace BX_l := Aside0.mk (KPL.out.blk BX_l.out (by simp))
        replace BX_o := Aside0.mk (KPL.out.blk BX_o.out (by simp))
        replace KP_v2 := Aside0.mk (KP_v2.out.trans KPL.out (fun g_ hg_ => by simp at hg_))
        replace KP_wu13 := Aside0.mk (KP_wu13.out.trans KPL.out (fun g_ hg_ => by simp at hg_))
        replace OWN_o := Aside0.mk (own_keep OWN_o.out (fun g_ hb_ hg_ => KPL.out.2 g_ hg_ (by simp)))
        replace BW := BWL
        clear BWL
        have S18 : Aside0 (wb.heap.size ≤ w6.heap.size) := ⟨KPL.out.1⟩
        have KP_wb := KPL
        clear KPL
        by_cases hlti : i < sd
        case pos =>
          have c1_i : decide ((i : Int) < (sd : Int)) = true := by simpa using hlti
          have c2_i : decide (i < sd) = true := by simpa using hlti
          have PI : IntKind.i64.wrap ((i : Int) + 1) = ((i + 1 : Nat) : Int) := by rw [wrap_in _ ⟨by omega, by omega⟩]; omega
          obtain ⟨x1, hx1⟩ : ∃ x, rd d (laneAt sd bh k i : Nat) = x := ⟨_, rfl⟩
          obtain ⟨j1, hj1⟩ : ∃ x, laneAt sd bh k i = x := ⟨_, rfl⟩
          have hj : j1 < d.length := by rw [← hj1]; exact LT.out k i hltk hlti
          obtain ⟨_, hada, hc1⟩ := Kd.at_int (R0_d.out.below BW.out).c.1 (j1 : Int) (by omega) (by omega)
          cases hada
          simp only [Int.toNat_natCast] at hc1
          have X1 := Aside0.mk hx1
          rw [hj1] at hx1
          rw [hx1] at hc1
          have AT : Aside0 (∀ W' : World, Calls Try.prog 73 #[.agg #[.int .i64 ah, .int .i64 sd, .int .i64 bh], .int .i64 k, .int .i64 i] W' fun e w' => e = .returned (.int .i64 (j1 : Nat)) ∧ Below W'.heap.size W' w') := ⟨fun W' => by have h := at_any ah sd bh k i W' (by omega) (by omega) (by omega) (by omega) (by omega); rw [hj1] at h; exact h⟩
          have IX : isI64 x1 := by rw [← hx1]; exact HI.out _ (rd_mem _ _ hj)
          have IN : isI64 n := by
            have h := foldN_I64 (F := Fw) HIW.out.1 IN0.out (X := (fun i => rd d (laneAt sd bh k i : Nat))) i (fun j hj2 => HI.out _ (rd_mem _ _ (LT.out k j hltk (by omega))))
            rw [hpi] at h; exact h
          have qt : w6.cell? ⟨w.heap.size, 1, none⟩ = some (.slice (some ad1) d.length c1) := (blk_cell BX_t.out 1).trans rfl
          have qw : w6.cell? ⟨w.heap.size + 1, 0, none⟩ = some (.func (.func fw) #[] #[]) := (blk_cell BX_w.out 0).trans rfl
          have ql0 : w6.cell? ⟨v5.heap.size, 0, none⟩ = some (.int .i64 ah) := (blk_cell BX_l.out 0).trans rfl
          have ql1 : w6.cell? ⟨v5.heap.size, 1, none⟩ = some (.int .i64 sd) := (blk_cell BX_l.out 1).trans rfl
          have ql2 : w6.cell? ⟨v5.heap.size, 2, none⟩ = some (.int .i64 bh) := (blk_cell BX_l.out 2).trans rfl
          have hj' : ((j1 : Nat) : Int) < (d.length : Int) := by omega
          obtain ⟨n1, hn1⟩ : ∃ x, (Fw n x1).1 = x := ⟨_, rfl⟩
          obtain ⟨y, hy⟩ : ∃ x, (Fw n x1).2 = x := ⟨_, rfl⟩
          have FF := Aside0.mk (HW.out n x1 IN IX)
          rw [hn1, hy] at FF
          have NX : Aside0 (Fw n (rd d (laneAt sd bh k i : Nat)) = (n1, y)) := ⟨by rw [X1.out, ← hn1, ← hy]⟩
          have HPI := Aside0.mk (And.intro hpi (And.intro hgi hlti))
          clear hj1 hx1 hn1 hy X1 IX IN hpi hgi hlei
          go_wp2_with fail
          go_region_held3 (fun w' => w'.cell? ⟨w.heap.size + 1, 0, none⟩ = some (.func (.func fw) #[] #[]) ∧ w'.cell? ⟨w.heap.size, 1, none⟩ = some (.slice (some ad1) d.length c1) ∧ w'.cell? ⟨v5.heap.size, 0, none⟩ = some (.int .i64 ah) ∧ w'.cell? ⟨v5.heap.size, 1, none⟩ = some (.int .i64 sd) ∧ w'.cell? ⟨v5.heap.size, 2, none⟩ = some (.int .i64 bh) ∧ w'.cell? (ad1.add j1) = some (.int .i64 x1)) (first | (exact ⟨qw, qt, ql0, ql1, ql2, hc1⟩) | (exact ⟨pw_cell_below hba qw, pw_cell_below hba qt, pw_cell_below hba ql0, pw_cell_below hba ql1, pw_cell_below hba ql2, pw_cell_below hba hc1⟩) | (exact ⟨pw_cell_below hbb (pw_cell_below hba qw), pw_cell_below hbb (pw_cell_below hba qt), pw_cell_below hbb (pw_cell_below hba ql0), pw_cell_below hbb (pw_cell_below hba ql1), pw_cell_below hbb (pw_cell_below hba ql2), pw_cell_below hbb (pw_cell_below hba hc1)⟩))
            (first | ((with_reducible refine (AT.out _).mono ?_); rintro e wa ⟨rfl, hba⟩) | ((with_reducible refine (FF.out _).mono ?_); rintro e wc ⟨rfl, hbb⟩))
          have hb := below_then (below_undrew hba) (below_undrew hba).size hbb
          replace BX_t := Aside0.mk (blk_below BX_t.out hb)
          replace BX_w := Aside0.mk (blk_below BX_w.out hb)
          replace BX_r := Aside0.mk (blk_below BX_r.out hb)
          replace BX_l := Aside0.mk (blk_below BX_l.out hb)
          replace BX_o := Aside0.mk (blk_below BX_o.out hb)
          replace KP_v2 := Aside0.mk (KP_v2.out.below hb)
          replace KP_wu13 := Aside0.mk (KP_wu13.out.below hb)
          replace KP_wb := Aside0.mk (KP_wb.out.below hb)
          replace OWN_o := Aside0.mk (own_keep OWN_o.out (fun g_ _ hg_ => hb.block g_ hg_))
          replace BW := Aside0.mk (below_then BW.out BW.out.size hb)
          have S19 : Aside0 (w6.heap.size ≤ wc.heap.size) := ⟨hb.size⟩
          clear hb hba hbb qw qt ql0 ql1 ql2 hc1 hj' hj AT FF
          by_cases hy : y = 0
          case pos =>
            have zy : (y != 0) = false := by simpa using hy
            have NX2 : Aside0 (foldN Fw n0 (fun i => rd d (laneAt sd bh k i : Nat)) (i + 1) = (n1, 0)) := ⟨by rw [foldN_next HPI.out.1]; exact NX.out.trans (by rw [hy])⟩
            clear hy
            go_wp2_with fail
            go_roundg (sd - (i + 1))
            case measure => have := HPI.out; omega
            case rel => exact ⟨i + 1, n1, by first | rfl | simp, by first | rfl | simp, KP_wb, BW, ⟨HPI.out.2.2, rfl, NX2.out⟩⟩
          case neg =>
            have zy : (y != 0) = true := by simpa using hy
            have EV2 : Aside0 (togR Fw Fe Ff s d (a : Nat) = (([], []), y)) := ⟨by
              rw [EV.out]
              exact eachR_err HPK.out.1 (togG_err (by rw [N0.out]; exact HPI.out.1) (by rw [NX.out]) hy HPI.out.2.2) hy (by rw [HE.out]; exact HPK.out.2.2)⟩
            clear hy
            have q20 : wc.cell? ⟨w.heap.size + 1 + 1, 0, none⟩ = some (.slice none 0 0) := (blk_cell BX_r.out 0).trans rfl
            have q21 : wc.cell? ⟨w.heap.size + 1 + 1, 1, none⟩ = some (.slice none 0 0) := (blk_cell BX_r.out 1).trans rfl
            have q22 : wc.frozen? ⟨w.heap.size + 1 + 1, 0, none⟩ = false := blk_frozen BX_r.out 0
            have q23 : wc.frozen? ⟨w.heap.size + 1 + 1, 1, none⟩ = false := blk_frozen BX_r.out 1
            go_wp2_with fail
            clear q20 q21 q22 q23
            exact end_err rfl _ w wc _ y rfl rfl BW.out (by have := S4.out; have := S6.out; have := S9.out; have := S10.out; have := S14.out; have := S15.out; have := S16.out; have := S18.out; have := S19.out; omega) BX_r.out _ EV2.out
        case neg =>
          obtain rfl : sd = i := by omega
          have c1_i : decide ((sd : Int) < (sd : Int)) = false := by simp
          have c2_i : decide (sd < sd) = false := by simp
          have IN : isI64 n := by
            have h := foldN_I64 (F := Fw) HIW.out.1 IN0.out (X := (fun i => rd d (laneAt sd bh k i : Nat))) sd (fun j hj2 => HI.out _ (rd_mem _ _ (LT.out k j hltk (by omega))))
            rw [hpi] at h; exact h
          obtain ⟨x, hx⟩ : ∃ x, (Fe n (sd : Nat)).1 = x := ⟨_, rfl⟩
          obtain ⟨y, hy⟩ : ∃ x, (Fe n (sd : Nat)).2 = x := ⟨_, rfl⟩
          have FF := Aside0.mk (HE2.out n (sd : Nat) IN ⟨by omega, by omega⟩)
          rw [hx, hy] at FF
          have GX : Aside0 (togG Fw Fe Ff d sd bh k = (x, y)) := ⟨by rw [togG_end (by rw [N0.out]; exact hpi), ← hx, ← hy]⟩
          clear hx hy IN hpi hgi hlei hlti
          have q19 : w6.cell? ⟨w.heap.size + 1, 1, none⟩ = some (.func (.func fe) #[] #[]) := (blk_cell BX_w.out 1).trans rfl
          have q20 : w6.cell? ⟨v5.heap.size, 1, none⟩ = some (.int .i64 sd) := (blk_cell BX_l.out 1).trans rfl
          go_wp2_with fail
          clear q19 q20
          refine (FF.out _).mono ?_
          rintro e wd ⟨rfl, hb⟩
          replace BX_t := Aside0.mk (blk_below BX_t.out hb)
          replace BX_w := Aside0.mk (blk_below BX_w.out hb)
          replace BX_r := Aside0.mk (blk_below BX_r.out hb)
          replace BX_l := Aside0.mk (blk_below BX_l.out hb)
          replace BX_o := Aside0.mk (blk_below BX_o.out hb)
          replace KP_v2 := Aside0.mk (KP_v2.out.below hb)
          replace KP_wu13 := Aside0.mk (KP_wu13.out.below hb)
          replace KP_wb := Aside0.mk (KP_wb.out.below hb)
          replace OWN_o := Aside0.mk (own_keep OWN_o.out (fun g_ _ hg_ => hb.block g_ hg_))
          replace BW := Aside0.mk (below_then BW.out BW.out.size hb)
          have S21 : Aside0 (w6.heap.size ≤ wd.heap.size) := ⟨hb.size⟩
          clear hb
          by_cases hy : y = 0
          case pos =>
            have zy : (y != 0) = false := by simpa using hy
            have GY : Aside0 (errG (togG Fw Fe Ff d sd bh) (k + 1) = 0) := ⟨errG_next HPK.out.1 (by rw [GX.out, hy])⟩
            clear hy
            have hgk := HPK.out.2.1
            have h22q : wd.cell? ⟨v2.heap.size, 1, none⟩ = some (.slice Ad (dataG (togG Fw Fe Ff d sd bh) k).length cd) := (blk_cell BX_o.out 1).trans rfl
            go_wp2_with (at_builtin; refine print_append_num (w0 := wd) wu13.heap.size rfl _ _ 22 3 .i64 8 rfl Try.underlying22 infoInt (by decide) (.slice Ad (dataG (togG Fw Fe Ff d sd bh) k).length cd) (dataG (togG Fw Fe Ff d sd bh) k) x rfl rfl OWN_o.out ?_ ?_ ?_ ?_)
            · exact ⟨rfl, rfl, rfl, Nat.le_refl _, fun _ _ => rfl⟩
            · have := S4.out; have := S6.out; have := S9.out; have := S10.out; have := S14.out; have := S15.out; have := S16.out; have := S18.out; have := S21.out; omega
            · simp only [dataG, List.length_map, List.length_range]; omega
            intro va wa23 ha1 ha2 ha3 ha4
            have hl1 : (dataG (togG Fw Fe Ff d sd bh) k).length + 1 = (dataG (togG Fw Fe Ff d sd bh) (k + 1)).length := by simp [dataG]
            obtain ⟨An, cn, rfl⟩ := own_slice ha1
            have e1a : dataG (togG Fw Fe Ff d sd bh) (k + 1) = dataG (togG Fw Fe Ff d sd bh) k ++ [x] := by rw [dataG_succ, GX.out]
            rw [hl1, ← e1a] at ha1
            rw [hl1]
            have hbB : Below wu13.heap.size wd wa23 := ha2
            replace OWN_o := Aside0.mk ha1
            replace BX_t := Aside0.mk ((hbB.block _ (by have := S4.out; have := S6.out; have := S9.out; have := S10.out; have := S14.out; have := S15.out; have := S16.out; have := S18.out; have := S21.out; omega)).trans BX_t.out)
            replace BX_w := Aside0.mk ((hbB.block _ (by have := S4.out; have := S6.out; have := S9.out; have := S10.out; have := S14.out; have := S15.out; have := S16.out; have := S18.out; have := S21.out; omega)).trans BX_w.out)
            replace BX_r := Aside0.mk ((hbB.block _ (by have := S4.out; have := S6.out; have := S9.out; have := S10.out; have := S14.out; have := S15.out; have := S16.out; have := S18.out; have := S21.out; omega)).trans BX_r.out)
            replace BX_l := Aside0.mk ((hbB.block _ (by have := S4.out; have := S6.out; have := S9.out; have := S10.out; have := S14.out; have := S15.out; have := S16.out; have := S18.out; have := S21.out; omega)).trans BX_l.out)
            replace BX_o := Aside0.mk ((hbB.block _ (by have := S4.out; have := S6.out; have := S9.out; have := S10.out; have := S14.out; have := S15.out; have := S16.out; have := S18.out; have := S21.out; omega)).trans BX_o.out)
            clear KP_wb
            replace KP_v2 := Aside0.mk (KP_v2.out.base hbB (by have := S4.out; have := S6.out; have := S9.out; have := S10.out; have := S14.out; have := S15.out; have := S16.out; have := S18.out; have := S21.out; omega))
            replace KP_wu13 := Aside0.mk (KP_wu13.out.base hbB (by have := S4.out; have := S6.out; have := S9.out; have := S10.out; have := S14.out; have := S15.out; have := S16.out; have := S18.out; have := S21.out; omega))
            replace BW := Aside0.mk (BW.out.trans (hbB.mono (by have := S4.out; have := S6.out; have := S9.out; have := S10.out; have := S14.out; have := S15.out; have := S16.out; have := S18.out; have := S21.out; omega)))
            have S24 : Aside0 (wd.heap.size ≤ wa23.heap.size) := ⟨hbB.size⟩
            have h22r : wa23.cell? ⟨v2.heap.size, 1, none⟩ = some (.slice Ad (dataG (togG Fw Fe Ff d sd bh) k).length cd) := (blk_cell BX_o.out 1).trans rfl
            have h22f := blk_frozen BX_o.out 1
            clear ha1 ha2 ha3 ha4 hbB h22q e1a hl1
            go_wp2_with fail
            go_roundg (N - (k + 1))
            case measure => omega
            case rel =>
              refine ⟨k + 1, _, by first | rfl | simp, ⟨KP_wu13.out.set (by simp) 1 _⟩, ⟨BW.out.setCell (p := ⟨v2.heap.size, 1, none⟩) (show w.heap.size ≤ v2.heap.size from (by have := S4.out; have := S6.out; have := S9.out; have := S10.out; have := S14.out; have := S15.out; have := S16.out; have := S18.out; have := S21.out; have := S24.out; omega)) _⟩, ⟨own_keep OWN_o.out (fun g_ hg_ _ => set_far _ _ _ _ (by show g_ ≠ v2.heap.size; have := S4.out; have := S6.out; have := S9.out; have := S10.out; have := S14.out; have := S15.out; have := S16.out; have := S18.out; have := S21.out; have := S24.out; omega))⟩, ⟨blk_put (cs := #[.slice Ae (s.eraseIdx a).length ce', .slice Ad (dataG (togG Fw Fe Ff d sd bh) k).length cd]) BX_o.out 1 _ rfl⟩, ⟨hltk, rfl, GY.out⟩⟩
          case neg =>
            have zy : (y != 0) = true := by simpa using hy
            have EV2 : Aside0 (togR Fw Fe Ff s d (a : Nat) = (([], []), y)) := ⟨by
              rw [EV.out]
              exact eachR_err HPK.out.1 (by rw [GX.out]) hy (by rw [HE.out]; exact HPK.out.2.2)⟩
            clear hy
            have q22 : wd.cell? ⟨w.heap.size + 1 + 1, 0, none⟩ = some (.slice none 0 0) := (blk_cell BX_r.out 0).trans rfl
            have q23 : wd.cell? ⟨w.heap.size + 1 + 1, 1, none⟩ = some (.slice none 0 0) := (blk_cell BX_r.out 1).trans rfl
            have q24 : wd.frozen? ⟨w.heap.size + 1 + 1, 0, none⟩ = false := blk_frozen BX_r.out 0
            have q25 : wd.frozen? ⟨w.heap.size + 1 + 1, 1, none⟩ = false := blk_frozen BX_r.out 1
            go_wp2_with fail
            clear q22 q23 q24 q25
            exact end_err rfl _ w wd _ y rfl rfl BW.out (by have := S4.out; have := S6.out; have := S9.out; have := S10.out; have := S14.out; have := S15.out; have := S16.out; have := S18.out; have := S21.out; omega) BX_r.out _ EV2.out
    case neg =>
      obtain rfl : N = k := by omega
      have c1_k : decide ((N : Int) < (N : Int)) = false := by simp
      have c2_k : decide (N < N) = false := by simp
      clear hlek hgk hltk
      have q16 : w4.cell? ⟨w.heap.size + 1 + 1, 0, none⟩ = some (.slice none 0 0) := (blk_cell BX_r.out 0).trans rfl
      have q17 : w4.cell? ⟨w.heap.size + 1 + 1, 1, none⟩ = some (.slice none 0 0) := (blk_cell BX_r.out 1).trans rfl
      have q18 : w4.cell? ⟨v2.heap.size, 0, none⟩ = some (.slice Ae (s.eraseIdx a).length ce') := (blk_cell BX_o.out 0).trans rfl
      have q19 : w4.cell? ⟨v2.heap.size, 1, none⟩ = some (.slice Ad (dataG (togG Fw Fe Ff d sd bh) N).length cd) := (blk_cell BX_o.out 1).trans rfl
      have q20 : w4.frozen? ⟨w.heap.size + 1 + 1, 0, none⟩ = false := blk_frozen BX_r.out 0
      have q21 : w4.frozen? ⟨w.heap.size + 1 + 1, 1, none⟩ = false := blk_frozen BX_r.out 1
      go_wp2_with fail
      clear q16 q17 q18 q19 q20 q21
      have EV2 : Aside0 (togR Fw Fe Ff s d (a : Nat) = ((s.eraseIdx a, dataG (togG Fw Fe Ff d sd bh) N), 0)) := ⟨by
        rw [EV.out, eachR_ok (fun j hj => errG_all _ hpk j (by rw [HE.out] at hj; exact hj)), HE.out]⟩
      rw [EV2.out]
      exact end_val2 rfl _ w w4 _ ((s.eraseIdx a, dataG (togG Fw Fe Ff d sd bh) N), 0) _ _ rfl rfl BW.out (by have := S4.out; have := S6.out; have := S9.out; have := S10.out; have := S14.out; have := S15.out; omega) BX_r.out wu8.heap.size wu13.heap.size (by have := S4.out; have := S6.out; have := S9.out; have := S10.out; have := S14.out; have := S15.out; omega) (by have := S4.out; have := S6.out; have := S9.out; have := S10.out; have := S14.out; have := S15.out; omega) (RN_s.out.keep KP_v2.out (by simp)) (RdN.of_ownsRow OWN_o.out)
end Go.Proofs.Ytpnigmcpifilmaa.P
