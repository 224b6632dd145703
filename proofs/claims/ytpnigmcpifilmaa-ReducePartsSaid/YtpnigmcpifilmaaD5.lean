/- Contracts of reduce.Sum, Mean, Max. -/
import Derived.Test.YtpnigmcpifilmaaD4
import Derived.Laws.EntriesVeiled
namespace Go.Proofs.Ytpnigmcpifilmaa.P
open Go.RowKit Go.Shelf Go.Proofs.YtpnigmcpifilmaaW.PrintWords Go.Proofs.YtpnigmcpifilmaaW.PrintLast Go.Proofs.YtpnigmcpifilmaaW.PrintMore
set_option linter.unusedVariables false
set_option linter.unusedSimpArgs false
set_option maxHeartbeats 4000000
/-- What a call that gives a tensor leaves, its parts known as slices. -/
def TOpenN (w : World) (S D : List Int) (E : Int) (e : Ending) (w' : World) : Prop :=
  ∃ A c A' c', e = .returned (.tuple #[.agg #[.slice A S.length c, .slice A' D.length c'], .int .i64 E]) ∧ RdN w.heap.size w' (.slice A S.length c) S ∧ RdN w.heap.size w' (.slice A' D.length c') D ∧ Below w.heap.size w w'
theorem TPost.openN {w : World} {S D : List Int} {E : Int} {e : Ending} {w' : World} (h : TPost w ((S, D), E) e w') : TOpenN w S D E e w' := by
  obtain ⟨v0, v1, rfl, h0, h1, hb⟩ := h
  obtain ⟨A, c, rfl, h2, h3⟩ := h0.rd
  obtain ⟨A', c', rfl, h4, h5⟩ := h1.rd
  exact ⟨A, c, A', c', rfl, h0, h1, hb⟩
theorem tog_any (fw fe ff : Nat) (Fw Fe : Int → Int → Int × Int) (Ff : Int → Int) (hw : IsTwo fw Fw) (he : IsTwo fe Fe) (hf : IsFrom ff Ff) (hIw : ∀ a b, isI64 a → isI64 b → isI64 (Fw a b).1) (hIf : ∀ a, isI64 a → isI64 (Ff a)) (A0 : Option Addr) (c0 : Nat) (s : List Int) (A1 : Option Addr) (c1 : Nat) (d : List Int) (ax : Int) (w : World)
    (r0 : Rd w (.slice A0 s.length c0) s) (r1 : Rd w (.slice A1 d.length c1) d) (i1 : allI d) :
    Calls Try.prog 58 #[.agg #[.slice A0 s.length c0, .slice A1 d.length c1], .int .i64 ax, .agg #[.func (.func fw) #[] #[], .func (.func fe) #[] #[]], .func (.func ff) #[] #[]] w (TPost w (togR Fw Fe Ff s d ax)) := by
  by_cases ht : tOk s d = true
  · by_cases hx : 0 ≤ ax ∧ ax < s.length
    · obtain ⟨a, rfl⟩ := Int.eq_ofNat_of_zero_le hx.1
      exact tog_ok fw fe ff Fw Fe Ff hw he hf A0 c0 s A1 c1 d hIw hIf a w r0 r1 i1 ht (by omega)
    · exact tog_unfit fw fe ff Fw Fe Ff hw he hf A0 c0 s A1 c1 d ax w r0 ht hx
  · exact tog_untrue fw fe ff Fw Fe Ff hw he hf A0 c0 s A1 c1 d ax w r0 (by simpa using ht)
def doneF (n _s : Int) : Int × Int := (n, 0)
def mostF (a b : Int) : Int × Int := (max a b, 0)
def shareF (n sd : Int) : Int × Int := divF n (IntKind.i64.wrap (sd * 4294967296))
def noneF (_n : Int) : Int := 0
def sumR := togR addF doneF noneF
def maxR := togR mostF doneF id
def meanR (s d : List Int) (ax : Int) : TR := if (sumR s d ax).2 = 0 then togR addF shareF noneF s d ax else (([], []), (sumR s d ax).2)
attribute [local go_sem] max_mx min_mn
theorem done_is : IsTwo 60 doneF := ⟨enters_of Try.func60 (by kernel_rfl) rfl, fun a b _ _ W => by
  unfold doneF
  go_enter Try.func60, Try.ntmps60
  go_wp2
  go_ret2
  exact ⟨rfl, Below.refl _ _⟩⟩
theorem most_is : IsTwo 69 mostF := ⟨enters_of Try.func69 (by kernel_rfl) rfl, fun a b _ _ W => by
  unfold mostF
  go_enter Try.func69, Try.ntmps69
  go_wp2
  go_ret2
  exact ⟨rfl, Below.refl _ _⟩⟩
theorem none_is : IsFrom 61 noneF := ⟨enters_of Try.func61 (by kernel_rfl) rfl, fun a _ W => by
  unfold noneF
  go_enter Try.func61, Try.ntmps61
  go_wp2
  go_ret
  exact ⟨rfl, Below.refl _ _⟩⟩
theorem same_is : IsFrom 70 id := ⟨enters_of Try.func70 (by kernel_rfl) rfl, fun a _ W => by
  go_enter Try.func70, Try.ntmps70
  go_wp2
  go_ret
  exact ⟨rfl, Below.refl _ _⟩⟩
theorem wrap_I64 (n : Int) : isI64 (IntKind.i64.wrap n) := by rw [IntKind.wrap_i64]; unfold isI64; omega
theorem share_is : IsTwo 67 shareF := ⟨enters_of Try.func67 (by kernel_rfl) rfl, fun a b ha _ W => by
  unfold shareF
  have hw := wrap_I64 (b * 4294967296)
  have e : wrap64 (b * 4294967296) = IntKind.i64.wrap (b * 4294967296) := by unfold wrap64; rw [IntKind.wrap_i64]
  obtain ⟨x, hx⟩ : ∃ x, IntKind.i64.wrap (b * 4294967296) = x := ⟨_, rfl⟩
  have HD := Aside0.mk (fixDiv_any a _ ha hw W)
  rw [hx] at HD e ⊢
  obtain ⟨r1, h1⟩ : ∃ r, (divF a x).1 = r := ⟨_, rfl⟩
  obtain ⟨r2, h2⟩ : ∃ r, (divF a x).2 = r := ⟨_, rfl⟩
  rw [h1, h2] at HD ⊢
  clear hw h1 h2
  go_enter Try.func67, Try.ntmps67
  go_wp2_with fail
  refine HD.out.mono ?_
  rintro e w' ⟨rfl, hb⟩
  have HB := Aside0.mk hb
  clear hb
  go_wp2_with fail
  go_ret2
  exact ⟨rfl, HB.out⟩⟩
theorem add_is : IsTwo 59 addF := ⟨enters_of Try.func59 (by kernel_rfl) rfl, fun a b ha hb W => (add_any a b ha hb W).mono fun e w' hh => ⟨hh.1, by rw [← hh.2]; exact Below.refl _ _⟩⟩
theorem add_I64 (a b : Int) : isI64 (addF a b).1 := two_I64 (op := 10) rfl a b
theorem most_I64 (a b : Int) (ha : isI64 a) (hb : isI64 b) : isI64 (mostF a b).1 := by unfold mostF isI64 at *; simp only; omega
theorem tog_sum (A0 : Option Addr) (c0 : Nat) (s : List Int) (A1 : Option Addr) (c1 : Nat) (d : List Int) (ax : Int) (w : World) {S D : List Int} {E : Int} (h : togR addF doneF noneF s d ax = ((S, D), E)) (r0 : Rd w (.slice A0 s.length c0) s) (r1 : Rd w (.slice A1 d.length c1) d) (i1 : allI d) :
    Calls Try.prog 58 #[.agg #[.slice A0 s.length c0, .slice A1 d.length c1], .int .i64 ax, .agg #[.func (.func 59) #[] #[], .func (.func 60) #[] #[]], .func (.func 61) #[] #[]] w (TOpenN w S D E) :=
  (tog_any _ _ _ _ _ _ add_is done_is none_is (fun a b _ _ => add_I64 a b) (fun _ _ => isI64_zero) A0 c0 s A1 c1 d ax w r0 r1 i1).mono fun e w' hh => TPost.openN (by rw [← h]; exact hh)
theorem tog_share (A0 : Option Addr) (c0 : Nat) (s : List Int) (A1 : Option Addr) (c1 : Nat) (d : List Int) (ax : Int) (w : World) {S D : List Int} {E : Int} (h : togR addF shareF noneF s d ax = ((S, D), E)) (r0 : Rd w (.slice A0 s.length c0) s) (r1 : Rd w (.slice A1 d.length c1) d) (i1 : allI d) :
    Calls Try.prog 58 #[.agg #[.slice A0 s.length c0, .slice A1 d.length c1], .int .i64 ax, .agg #[.func (.func 59) #[] #[], .func (.func 67) #[] #[]], .func (.func 61) #[] #[]] w (TOpenN w S D E) :=
  (tog_any _ _ _ _ _ _ add_is share_is none_is (fun a b _ _ => add_I64 a b) (fun _ _ => isI64_zero) A0 c0 s A1 c1 d ax w r0 r1 i1).mono fun e w' hh => TPost.openN (by rw [← h]; exact hh)
theorem tog_max (A0 : Option Addr) (c0 : Nat) (s : List Int) (A1 : Option Addr) (c1 : Nat) (d : List Int) (ax : Int) (w : World) {S D : List Int} {E : Int} (h : togR mostF doneF id s d ax = ((S, D), E)) (r0 : Rd w (.slice A0 s.length c0) s) (r1 : Rd w (.slice A1 d.length c1) d) (i1 : allI d) :
    Calls Try.prog 58 #[.agg #[.slice A0 s.length c0, .slice A1 d.length c1], .int .i64 ax, .agg #[.func (.func 69) #[] #[], .func (.func 60) #[] #[]], .func (.func 70) #[] #[]] w (TOpenN w S D E) :=
  (tog_any _ _ _ _ _ _ most_is done_is same_is most_I64 (fun _ h => h) A0 c0 s A1 c1 d ax w r0 r1 i1).mono fun e w' hh => TPost.openN (by rw [← h]; exact hh)
set_option maxRecDepth 100000 in
theorem sum_p (A0 : Option Addr) (c0 : Nat) (s : List Int) (A1 : Option Addr) (c1 : Nat) (d : List Int) (ax : Int) (w : World) {S D : List Int} {E : Int} (h : sumR s d ax = ((S, D), E)) (r0 : Rd w (.slice A0 s.length c0) s) (r1 : Rd w (.slice A1 d.length c1) d) (i1 : allI d) :
    Calls Try.prog 25 #[.agg #[.slice A0 s.length c0, .slice A1 d.length c1], .int .i64 ax] w (TPost w ((S, D), E)) := by
  unfold sumR at h
  have HH := Aside0.mk h
  clear h
  have R0_a := Aside0.mk r0
  have R0_d := Aside0.mk r1
  have I1 := Aside0.mk i1
  clear r0 r1 i1
  have BW : Aside0 (Below w.heap.size w w) := ⟨Below.refl _ _⟩
  go_enter Try.func25, Try.ntmps25
  have q1 : ((w.alloc (Obj.cells #[.slice A0 s.length c0, .slice A1 d.length c1] 24)).alloc (Obj.cells #[.slice none 0 0, .slice none 0 0] 24)).cell? ⟨w.heap.size, 0, none⟩ = some (.slice A0 s.length c0) := (blk_cell (blk_fold w [Obj.cells #[.slice A0 s.length c0, .slice A1 d.length c1] 24, Obj.cells #[.slice none 0 0, .slice none 0 0] 24] 0 _ rfl) 0).trans rfl
  have q2 : ((w.alloc (Obj.cells #[.slice A0 s.length c0, .slice A1 d.length c1] 24)).alloc (Obj.cells #[.slice none 0 0, .slice none 0 0] 24)).cell? ⟨w.heap.size, 1, none⟩ = some (.slice A1 d.length c1) := (blk_cell (blk_fold w [Obj.cells #[.slice A0 s.length c0, .slice A1 d.length c1] 24, Obj.cells #[.slice none 0 0, .slice none 0 0] 24] 0 _ rfl) 1).trans rfl
  obtain ⟨wu3, hwu3⟩ : ∃ u, ((w.alloc (Obj.cells #[.slice A0 s.length c0, .slice A1 d.length c1] 24)).alloc (Obj.cells #[.slice none 0 0, .slice none 0 0] 24)) = u := ⟨_, rfl⟩
  have hbwu3 : Below w.heap.size w wu3 := by rw [← hwu3]; exact below_fold w [Obj.cells #[.slice A0 s.length c0, .slice A1 d.length c1] 24, Obj.cells #[.slice none 0 0, .slice none 0 0] 24]
  have S4 : Aside0 (wu3.heap.size = w.heap.size + 2) := ⟨by rw [← hwu3]; exact size_fold w [Obj.cells #[.slice A0 s.length c0, .slice A1 d.length c1] 24, Obj.cells #[.slice none 0 0, .slice none 0 0] 24]⟩
  have BX_t : Aside0 (wu3.heap[w.heap.size]? = some (.cells #[.slice A0 s.length c0, .slice A1 d.length c1] 24 (0, 0))) := ⟨by rw [← hwu3]; exact blk_fold w [Obj.cells #[.slice A0 s.length c0, .slice A1 d.length c1] 24, Obj.cells #[.slice none 0 0, .slice none 0 0] 24] 0 _ rfl⟩
  have BX_r : Aside0 (wu3.heap[w.heap.size + 1]? = some (.cells #[.slice none 0 0, .slice none 0 0] 24 (0, 0))) := ⟨by rw [← hwu3]; exact blk_fold w [Obj.cells #[.slice A0 s.length c0, .slice A1 d.length c1] 24, Obj.cells #[.slice none 0 0, .slice none 0 0] 24] 1 _ rfl⟩
  replace BW := Aside0.mk (below_then BW.out BW.out.size hbwu3)
  have Hwu3 := Aside0.mk hwu3
  clear hbwu3 hwu3
  go_wp2_with fail
  rw [Hwu3.out]
  clear q1 q2
  clear Hwu3
  refine (tog_sum A0 c0 s A1 c1 d ax _ HH.out (R0_a.out.below BW.out) (R0_d.out.below BW.out) I1.out).mono ?_
  rintro e v5 ⟨Ax, kx, A'x, k'x, rfl, r0, r1, hb⟩
  have RN_x0 := Aside0.mk r0
  have RN_x1 := Aside0.mk r1
  replace BX_t := Aside0.mk (blk_below BX_t.out hb)
  replace BX_r := Aside0.mk (blk_below BX_r.out hb)
  replace BW := Aside0.mk (below_then BW.out BW.out.size hb)
  have S6 : Aside0 (wu3.heap.size ≤ v5.heap.size) := ⟨hb.size⟩
  clear hb r0 r1
  have KP_v5 : Aside0 (Kp [] v5 v5) := ⟨Kp.refl _ _⟩
  have q7 : v5.cell? ⟨w.heap.size + 1, 0, none⟩ = some (.slice none 0 0) := (blk_cell BX_r.out 0).trans rfl
  have q8 : v5.cell? ⟨w.heap.size + 1, 1, none⟩ = some (.slice none 0 0) := (blk_cell BX_r.out 1).trans rfl
  have q9 : v5.frozen? ⟨w.heap.size + 1, 0, none⟩ = false := blk_frozen BX_r.out 0
  have q10 : v5.frozen? ⟨w.heap.size + 1, 1, none⟩ = false := blk_frozen BX_r.out 1
  go_wp2_with fail
  clear q7 q8 q9 q10
  exact (end_val2 rfl _ w v5 _ ((S, D), E) _ _ rfl rfl BW.out (by have := S4.out; have := S6.out; omega) BX_r.out wu3.heap.size wu3.heap.size (by have := S4.out; have := S6.out; omega) (by have := S4.out; have := S6.out; omega) (RN_x0.out.keep KP_v5.out (by simp)) (RN_x1.out.keep KP_v5.out (by simp)))
theorem sum_r (A0 : Option Addr) (c0 : Nat) (s : List Int) (A1 : Option Addr) (c1 : Nat) (d : List Int) (ax : Int) (w : World) {S D : List Int} {E : Int} (h : sumR s d ax = ((S, D), E)) (r0 : Rd w (.slice A0 s.length c0) s) (r1 : Rd w (.slice A1 d.length c1) d) (i1 : allI d) :
    Calls Try.prog 25 #[.agg #[.slice A0 s.length c0, .slice A1 d.length c1], .int .i64 ax] w (TOpenN w S D E) :=
  (sum_p A0 c0 s A1 c1 d ax w h r0 r1 i1).mono fun _ _ h => h.openN
set_option maxRecDepth 100000 in
theorem max_p (A0 : Option Addr) (c0 : Nat) (s : List Int) (A1 : Option Addr) (c1 : Nat) (d : List Int) (ax : Int) (w : World) {S D : List Int} {E : Int} (h : maxR s d ax = ((S, D), E)) (r0 : Rd w (.slice A0 s.length c0) s) (r1 : Rd w (.slice A1 d.length c1) d) (i1 : allI d) :
    Calls Try.prog 29 #[.agg #[.slice A0 s.length c0, .slice A1 d.length c1], .int .i64 ax] w (TPost w ((S, D), E)) := by
  unfold maxR at h
  have HH := Aside0.mk h
  clear h
  have R0_a := Aside0.mk r0
  have R0_d := Aside0.mk r1
  have I1 := Aside0.mk i1
  clear r0 r1 i1
  have BW : Aside0 (Below w.heap.size w w) := ⟨Below.refl _ _⟩
  go_enter Try.func29, Try.ntmps29
  have q1 : ((w.alloc (Obj.cells #[.slice A0 s.length c0, .slice A1 d.length c1] 24)).alloc (Obj.cells #[.slice none 0 0, .slice none 0 0] 24)).cell? ⟨w.heap.size, 0, none⟩ = some (.slice A0 s.length c0) := (blk_cell (blk_fold w [Obj.cells #[.slice A0 s.length c0, .slice A1 d.length c1] 24, Obj.cells #[.slice none 0 0, .slice none 0 0] 24] 0 _ rfl) 0).trans rfl
  have q2 : ((w.alloc (Obj.cells #[.slice A0 s.length c0, .slice A1 d.length c1] 24)).alloc (Obj.cells #[.slice none 0 0, .slice none 0 0] 24)).cell? ⟨w.heap.size, 1, none⟩ = some (.slice A1 d.length c1) := (blk_cell (blk_fold w [Obj.cells #[.slice A0 s.length c0, .slice A1 d.length c1] 24, Obj.cells #[.slice none 0 0, .slice none 0 0] 24] 0 _ rfl) 1).trans rfl
  obtain ⟨wu3, hwu3⟩ : ∃ u, ((w.alloc (Obj.cells #[.slice A0 s.length c0, .slice A1 d.length c1] 24)).alloc (Obj.cells #[.slice none 0 0, .slice none 0 0] 24)) = u := ⟨_, rfl⟩
  have hbwu3 : Below w.heap.size w wu3 := by rw [← hwu3]; exact below_fold w [Obj.cells #[.slice A0 s.length c0, .slice A1 d.length c1] 24, Obj.cells #[.slice none 0 0, .slice none 0 0] 24]
  have S4 : Aside0 (wu3.heap.size = w.heap.size + 2) := ⟨by rw [← hwu3]; exact size_fold w [Obj.cells #[.slice A0 s.length c0, .slice A1 d.length c1] 24, Obj.cells #[.slice none 0 0, .slice none 0 0] 24]⟩
  have BX_t : Aside0 (wu3.heap[w.heap.size]? = some (.cells #[.slice A0 s.length c0, .slice A1 d.length c1] 24 (0, 0))) := ⟨by rw [← hwu3]; exact blk_fold w [Obj.cells #[.slice A0 s.length c0, .slice A1 d.length c1] 24, Obj.cells #[.slice none 0 0, .slice none 0 0] 24] 0 _ rfl⟩
  have BX_r : Aside0 (wu3.heap[w.heap.size + 1]? = some (.cells #[.slice none 0 0, .slice none 0 0] 24 (0, 0))) := ⟨by rw [← hwu3]; exact blk_fold w [Obj.cells #[.slice A0 s.length c0, .slice A1 d.length c1] 24, Obj.cells #[.slice none 0 0, .slice none 0 0] 24] 1 _ rfl⟩
  replace BW := Aside0.mk (below_then BW.out BW.out.size hbwu3)
  have Hwu3 := Aside0.mk hwu3
  clear hbwu3 hwu3
  go_wp2_with fail
  rw [Hwu3.out]
  clear q1 q2
  clear Hwu3
  refine (tog_max A0 c0 s A1 c1 d ax _ HH.out (R0_a.out.below BW.out) (R0_d.out.below BW.out) I1.out).mono ?_
  rintro e v5 ⟨Ax, kx, A'x, k'x, rfl, r0, r1, hb⟩
  have RN_x0 := Aside0.mk r0
  have RN_x1 := Aside0.mk r1
  replace BX_t := Aside0.mk (blk_below BX_t.out hb)
  replace BX_r := Aside0.mk (blk_below BX_r.out hb)
  replace BW := Aside0.mk (below_then BW.out BW.out.size hb)
  have S6 : Aside0 (wu3.heap.size ≤ v5.heap.size) := ⟨hb.size⟩
  clear hb r0 r1
  have KP_v5 : Aside0 (Kp [] v5 v5) := ⟨Kp.refl _ _⟩
  have q7 : v5.cell? ⟨w.heap.size + 1, 0, none⟩ = some (.slice none 0 0) := (blk_cell BX_r.out 0).trans rfl
  have q8 : v5.cell? ⟨w.heap.size + 1, 1, none⟩ = some (.slice none 0 0) := (blk_cell BX_r.out 1).trans rfl
  have q9 : v5.frozen? ⟨w.heap.size + 1, 0, none⟩ = false := blk_frozen BX_r.out 0
  have q10 : v5.frozen? ⟨w.heap.size + 1, 1, none⟩ = false := blk_frozen BX_r.out 1
  go_wp2_with fail
  clear q7 q8 q9 q10
  exact (end_val2 rfl _ w v5 _ ((S, D), E) _ _ rfl rfl BW.out (by have := S4.out; have := S6.out; omega) BX_r.out wu3.heap.size wu3.heap.size (by have := S4.out; have := S6.out; omega) (by have := S4.out; have := S6.out; omega) (RN_x0.out.keep KP_v5.out (by simp)) (RN_x1.out.keep KP_v5.out (by simp)))
theorem max_r (A0 : Option Addr) (c0 : Nat) (s : List Int) (A1 : Option Addr) (c1 : Nat) (d : List Int) (ax : Int) (w : World) {S D : List Int} {E : Int} (h : maxR s d ax = ((S, D), E)) (r0 : Rd w (.slice A0 s.length c0) s) (r1 : Rd w (.slice A1 d.length c1) d) (i1 : allI d) :
    Calls Try.prog 29 #[.agg #[.slice A0 s.length c0, .slice A1 d.length c1], .int .i64 ax] w (TOpenN w S D E) :=
  (max_p A0 c0 s A1 c1 d ax w h r0 r1 i1).mono fun _ _ h => h.openN
set_option maxRecDepth 100000 in
theorem mean_p (A0 : Option Addr) (c0 : Nat) (s : List Int) (A1 : Option Addr) (c1 : Nat) (d : List Int) (ax : Int) (w : World) {S D : List Int} {E : Int} (h : meanR s d ax = ((S, D), E)) (r0 : Rd w (.slice A0 s.length c0) s) (r1 : Rd w (.slice A1 d.length c1) d) (i1 : allI d) :
    Calls Try.prog 27 #[.agg #[.slice A0 s.length c0, .slice A1 d.length c1], .int .i64 ax] w (TPost w ((S, D), E)) := by
  unfold meanR at h
  obtain ⟨⟨⟨S1, D1⟩, E1⟩, hs⟩ : ∃ r, sumR s d ax = r := ⟨_, rfl⟩
  rw [hs] at h
  simp only at h
  have HS := Aside0.mk hs
  clear hs
  by_cases he : E1 = 0
  case pos =>
    rw [if_pos he] at h
    have ze : (E1 != 0) = false := by simpa using he
    have HH := Aside0.mk h
    clear h he
    have R0_a := Aside0.mk r0
    have R0_d := Aside0.mk r1
    have I1 := Aside0.mk i1
    clear r0 r1 i1
    have BW : Aside0 (Below w.heap.size w w) := ⟨Below.refl _ _⟩
    go_enter Try.func27, Try.ntmps27
    have q1 : ((w.alloc (Obj.cells #[.slice A0 s.length c0, .slice A1 d.length c1] 24)).alloc (Obj.cells #[.slice none 0 0, .slice none 0 0] 24)).cell? ⟨w.heap.size, 0, none⟩ = some (.slice A0 s.length c0) := (blk_cell (blk_fold w [Obj.cells #[.slice A0 s.length c0, .slice A1 d.length c1] 24, Obj.cells #[.slice none 0 0, .slice none 0 0] 24] 0 _ rfl) 0).trans rfl
    have q2 : ((w.alloc (Obj.cells #[.slice A0 s.length c0, .slice A1 d.length c1] 24)).alloc (Obj.cells #[.slice none 0 0, .slice none 0 0] 24)).cell? ⟨w.heap.size, 1, none⟩ = some (.slice A1 d.length c1) := (blk_cell (blk_fold w [Obj.cells #[.slice A0 s.length c0, .slice A1 d.length c1] 24, Obj.cells #[.slice none 0 0, .slice none 0 0] 24] 0 _ rfl) 1).trans rfl
    obtain ⟨wu3, hwu3⟩ : ∃ u, ((w.alloc (Obj.cells #[.slice A0 s.length c0, .slice A1 d.length c1] 24)).alloc (Obj.cells #[.slice none 0 0, .slice none 0 0] 24)) = u := ⟨_, rfl⟩
    have hbwu3 : Below w.heap.size w wu3 := by rw [← hwu3]; exact below_fold w [Obj.cells #[.slice A0 s.length c0, .slice A1 d.length c1] 24, Obj.cells #[.slice none 0 0, .slice none 0 0] 24]
    have S4 : Aside0 (wu3.heap.size = w.heap.size + 2) := ⟨by rw [← hwu3]; exact size_fold w [Obj.cells #[.slice A0 s.length c0, .slice A1 d.length c1] 24, Obj.cells #[.slice none 0 0, .slice none 0 0] 24]⟩
    have BX_t : Aside0 (wu3.heap[w.heap.size]? = some (.cells #[.slice A0 s.length c0, .slice A1 d.length c1] 24 (0, 0))) := ⟨by rw [← hwu3]; exact blk_fold w [Obj.cells #[.slice A0 s.length c0, .slice A1 d.length c1] 24, Obj.cells #[.slice none 0 0, .slice none 0 0] 24] 0 _ rfl⟩
    have BX_r : Aside0 (wu3.heap[w.heap.size + 1]? = some (.cells #[.slice none 0 0, .slice none 0 0] 24 (0, 0))) := ⟨by rw [← hwu3]; exact blk_fold w [Obj.cells #[.slice A0 s.length c0, .slice A1 d.length c1] 24, Obj.cells #[.slice none 0 0, .slice none 0 0] 24] 1 _ rfl⟩
    replace BW := Aside0.mk (below_then BW.out BW.out.size hbwu3)
    have Hwu3 := Aside0.mk hwu3
    clear hbwu3 hwu3
    go_wp2_with fail
    rw [Hwu3.out]
    clear q1 q2
    clear Hwu3
    refine (sum_r A0 c0 s A1 c1 d ax _ HS.out (R0_a.out.below BW.out) (R0_d.out.below BW.out) I1.out).mono ?_
    rintro e v5 ⟨Ay, ky, A'y, k'y, rfl, r0, r1, hb⟩
    have RN_y0 := Aside0.mk r0
    have RN_y1 := Aside0.mk r1
    replace BX_t := Aside0.mk (blk_below BX_t.out hb)
    replace BX_r := Aside0.mk (blk_below BX_r.out hb)
    replace BW := Aside0.mk (below_then BW.out BW.out.size hb)
    have S6 : Aside0 (wu3.heap.size ≤ v5.heap.size) := ⟨hb.size⟩
    clear hb r0 r1
    have KP_v5 : Aside0 (Kp [] v5 v5) := ⟨Kp.refl _ _⟩
    have q7 : (v5.alloc (Obj.cells #[.slice Ay S1.length ky, .slice A'y D1.length k'y] 24)).cell? ⟨w.heap.size, 0, none⟩ = some (.slice A0 s.length c0) := (blk_cell (blk_below BX_t.out (below_fold v5 [Obj.cells #[.slice Ay S1.length ky, .slice A'y D1.length k'y] 24])) 0).trans rfl
    have q8 : (v5.alloc (Obj.cells #[.slice Ay S1.length ky, .slice A'y D1.length k'y] 24)).cell? ⟨w.heap.size, 1, none⟩ = some (.slice A1 d.length c1) := (blk_cell (blk_below BX_t.out (below_fold v5 [Obj.cells #[.slice Ay S1.length ky, .slice A'y D1.length k'y] 24])) 1).trans rfl
    obtain ⟨wu9, hwu9⟩ : ∃ u, (v5.alloc (Obj.cells #[.slice Ay S1.length ky, .slice A'y D1.length k'y] 24)) = u := ⟨_, rfl⟩
    have hbwu9 : Below v5.heap.size v5 wu9 := by rw [← hwu9]; exact below_fold v5 [Obj.cells #[.slice Ay S1.length ky, .slice A'y D1.length k'y] 24]
    have S10 : Aside0 (wu9.heap.size = v5.heap.size + 1) := ⟨by rw [← hwu9]; exact size_fold v5 [Obj.cells #[.slice Ay S1.length ky, .slice A'y D1.length k'y] 24]⟩
    replace BX_t := Aside0.mk (blk_below BX_t.out hbwu9)
    replace BX_r := Aside0.mk (blk_below BX_r.out hbwu9)
    replace KP_v5 := Aside0.mk (KP_v5.out.below hbwu9)
    have BX_y : Aside0 (wu9.heap[v5.heap.size]? = some (.cells #[.slice Ay S1.length ky, .slice A'y D1.length k'y] 24 (0, 0))) := ⟨by rw [← hwu9]; exact blk_fold v5 [Obj.cells #[.slice Ay S1.length ky, .slice A'y D1.length k'y] 24] 0 _ rfl⟩
    replace BW := Aside0.mk (below_then BW.out BW.out.size hbwu9)
    have Hwu9 := Aside0.mk hwu9
    clear hbwu9 hwu9
    go_wp2_with fail
    rw [Hwu9.out]
    clear q7 q8
    clear Hwu9
    refine (tog_share A0 c0 s A1 c1 d ax _ HH.out (R0_a.out.below BW.out) (R0_d.out.below BW.out) I1.out).mono ?_
    rintro e v11 ⟨Ax, kx, A'x, k'x, rfl, r0, r1, hb⟩
    have RN_x0 := Aside0.mk r0
    have RN_x1 := Aside0.mk r1
    replace BX_t := Aside0.mk (blk_below BX_t.out hb)
    replace BX_r := Aside0.mk (blk_below BX_r.out hb)
    replace BX_y := Aside0.mk (blk_below BX_y.out hb)
    replace KP_v5 := Aside0.mk (KP_v5.out.below hb)
    replace BW := Aside0.mk (below_then BW.out BW.out.size hb)
    have S12 : Aside0 (wu9.heap.size ≤ v11.heap.size) := ⟨hb.size⟩
    clear hb r0 r1
    have KP_v11 : Aside0 (Kp [] v11 v11) := ⟨Kp.refl _ _⟩
    have q13 : v11.cell? ⟨w.heap.size + 1, 0, none⟩ = some (.slice none 0 0) := (blk_cell BX_r.out 0).trans rfl
    have q14 : v11.cell? ⟨w.heap.size + 1, 1, none⟩ = some (.slice none 0 0) := (blk_cell BX_r.out 1).trans rfl
    have q15 : v11.frozen? ⟨w.heap.size + 1, 0, none⟩ = false := blk_frozen BX_r.out 0
    have q16 : v11.frozen? ⟨w.heap.size + 1, 1, none⟩ = false := blk_frozen BX_r.out 1
    go_wp2_with fail
    clear q13 q14 q15 q16
    exact (end_val2 rfl _ w v11 _ ((S, D), E) _ _ rfl rfl BW.out (by have := S4.out; have := S6.out; have := S10.out; have := S12.out; omega) BX_r.out wu9.heap.size wu9.heap.size (by have := S4.out; have := S6.out; have := S10.out; have := S12.out; omega) (by have := S4.out; have := S6.out; have := S10.out; have := S12.out; omega) (RN_x0.out.keep KP_v11.out (by simp)) (RN_x1.out.keep KP_v11.out (by simp)))
  case neg =>
    rw [if_neg he] at h
    simp only [Prod.mk.injEq] at h
    obtain ⟨⟨h1, h2⟩, h3⟩ := h
    subst h1 h2 h3
    have ze : (E1 != 0) = true := by simpa using he
    clear he
    have R0_a := Aside0.mk r0
    have R0_d := Aside0.mk r1
    have I1 := Aside0.mk i1
    clear r0 r1 i1
    have BW : Aside0 (Below w.heap.size w w) := ⟨Below.refl _ _⟩
    go_enter Try.func27, Try.ntmps27
    have q1 : ((w.alloc (Obj.cells #[.slice A0 s.length c0, .slice A1 d.length c1] 24)).alloc (Obj.cells #[.slice none 0 0, .slice none 0 0] 24)).cell? ⟨w.heap.size, 0, none⟩ = some (.slice A0 s.length c0) := (blk_cell (blk_fold w [Obj.cells #[.slice A0 s.length c0, .slice A1 d.length c1] 24, Obj.cells #[.slice none 0 0, .slice none 0 0] 24] 0 _ rfl) 0).trans rfl
    have q2 : ((w.alloc (Obj.cells #[.slice A0 s.length c0, .slice A1 d.length c1] 24)).alloc (Obj.cells #[.slice none 0 0, .slice none 0 0] 24)).cell? ⟨w.heap.size, 1, none⟩ = some (.slice A1 d.length c1) := (blk_cell (blk_fold w [Obj.cells #[.slice A0 s.length c0, .slice A1 d.length c1] 24, Obj.cells #[.slice none 0 0, .slice none 0 0] 24] 0 _ rfl) 1).trans rfl
    obtain ⟨wu3, hwu3⟩ : ∃ u, ((w.alloc (Obj.cells #[.slice A0 s.length c0, .slice A1 d.length c1] 24)).alloc (Obj.cells #[.slice none 0 0, .slice none 0 0] 24)) = u := ⟨_, rfl⟩
    have hbwu3 : Below w.heap.size w wu3 := by rw [← hwu3]; exact below_fold w [Obj.cells #[.slice A0 s.length c0, .slice A1 d.length c1] 24, Obj.cells #[.slice none 0 0, .slice none 0 0] 24]
    have S4 : Aside0 (wu3.heap.size = w.heap.size + 2) := ⟨by rw [← hwu3]; exact size_fold w [Obj.cells #[.slice A0 s.length c0, .slice A1 d.length c1] 24, Obj.cells #[.slice none 0 0, .slice none 0 0] 24]⟩
    have BX_t : Aside0 (wu3.heap[w.heap.size]? = some (.cells #[.slice A0 s.length c0, .slice A1 d.length c1] 24 (0, 0))) := ⟨by rw [← hwu3]; exact blk_fold w [Obj.cells #[.slice A0 s.length c0, .slice A1 d.length c1] 24, Obj.cells #[.slice none 0 0, .slice none 0 0] 24] 0 _ rfl⟩
    have BX_r : Aside0 (wu3.heap[w.heap.size + 1]? = some (.cells #[.slice none 0 0, .slice none 0 0] 24 (0, 0))) := ⟨by rw [← hwu3]; exact blk_fold w [Obj.cells #[.slice A0 s.length c0, .slice A1 d.length c1] 24, Obj.cells #[.slice none 0 0, .slice none 0 0] 24] 1 _ rfl⟩
    replace BW := Aside0.mk (below_then BW.out BW.out.size hbwu3)
    have Hwu3 := Aside0.mk hwu3
    clear hbwu3 hwu3
    go_wp2_with fail
    rw [Hwu3.out]
    clear q1 q2
    clear Hwu3
    refine (sum_r A0 c0 s A1 c1 d ax _ HS.out (R0_a.out.below BW.out) (R0_d.out.below BW.out) I1.out).mono ?_
    rintro e v5 ⟨Ay, ky, A'y, k'y, rfl, r0, r1, hb⟩
    have RN_y0 := Aside0.mk r0
    have RN_y1 := Aside0.mk r1
    replace BX_t := Aside0.mk (blk_below BX_t.out hb)
    replace BX_r := Aside0.mk (blk_below BX_r.out hb)
    replace BW := Aside0.mk (below_then BW.out BW.out.size hb)
    have S6 : Aside0 (wu3.heap.size ≤ v5.heap.size) := ⟨hb.size⟩
    clear hb r0 r1
    have KP_v5 : Aside0 (Kp [] v5 v5) := ⟨Kp.refl _ _⟩
    have q7 : (v5.alloc (Obj.cells #[.slice Ay S1.length ky, .slice A'y D1.length k'y] 24)).cell? ⟨w.heap.size + 1, 0, none⟩ = some (.slice none 0 0) := (blk_cell (blk_below BX_r.out (below_fold v5 [Obj.cells #[.slice Ay S1.length ky, .slice A'y D1.length k'y] 24])) 0).trans rfl
    have q8 : (v5.alloc (Obj.cells #[.slice Ay S1.length ky, .slice A'y D1.length k'y] 24)).cell? ⟨w.heap.size + 1, 1, none⟩ = some (.slice none 0 0) := (blk_cell (blk_below BX_r.out (below_fold v5 [Obj.cells #[.slice Ay S1.length ky, .slice A'y D1.length k'y] 24])) 1).trans rfl
    have q9 : (v5.alloc (Obj.cells #[.slice Ay S1.length ky, .slice A'y D1.length k'y] 24)).frozen? ⟨w.heap.size + 1, 0, none⟩ = false := blk_frozen (blk_below BX_r.out (below_fold v5 [Obj.cells #[.slice Ay S1.length ky, .slice A'y D1.length k'y] 24])) 0
    have q10 : (v5.alloc (Obj.cells #[.slice Ay S1.length ky, .slice A'y D1.length k'y] 24)).frozen? ⟨w.heap.size + 1, 1, none⟩ = false := blk_frozen (blk_below BX_r.out (below_fold v5 [Obj.cells #[.slice Ay S1.length ky, .slice A'y D1.length k'y] 24])) 1
    obtain ⟨wu11, hwu11⟩ : ∃ u, (v5.alloc (Obj.cells #[.slice Ay S1.length ky, .slice A'y D1.length k'y] 24)) = u := ⟨_, rfl⟩
    have hbwu11 : Below v5.heap.size v5 wu11 := by rw [← hwu11]; exact below_fold v5 [Obj.cells #[.slice Ay S1.length ky, .slice A'y D1.length k'y] 24]
    have S12 : Aside0 (wu11.heap.size = v5.heap.size + 1) := ⟨by rw [← hwu11]; exact size_fold v5 [Obj.cells #[.slice Ay S1.length ky, .slice A'y D1.length k'y] 24]⟩
    replace BX_t := Aside0.mk (blk_below BX_t.out hbwu11)
    replace BX_r := Aside0.mk (blk_below BX_r.out hbwu11)
    replace KP_v5 := Aside0.mk (KP_v5.out.below hbwu11)
    have BX_y : Aside0 (wu11.heap[v5.heap.size]? = some (.cells #[.slice Ay S1.length ky, .slice A'y D1.length k'y] 24 (0, 0))) := ⟨by rw [← hwu11]; exact blk_fold v5 [Obj.cells #[.slice Ay S1.length ky, .slice A'y D1.length k'y] 24] 0 _ rfl⟩
    replace BW := Aside0.mk (below_then BW.out BW.out.size hbwu11)
    have Hwu11 := Aside0.mk hwu11
    clear hbwu11 hwu11
    go_wp2_with fail
    rw [Hwu11.out]
    clear q7 q8 q9 q10
    clear Hwu11
    exact (end_err rfl _ w wu11 _ E1 rfl rfl BW.out (by have := S4.out; have := S6.out; have := S12.out; omega) BX_r.out _ rfl)
theorem mean_r (A0 : Option Addr) (c0 : Nat) (s : List Int) (A1 : Option Addr) (c1 : Nat) (d : List Int) (ax : Int) (w : World) {S D : List Int} {E : Int} (h : meanR s d ax = ((S, D), E)) (r0 : Rd w (.slice A0 s.length c0) s) (r1 : Rd w (.slice A1 d.length c1) d) (i1 : allI d) :
    Calls Try.prog 27 #[.agg #[.slice A0 s.length c0, .slice A1 d.length c1], .int .i64 ax] w (TOpenN w S D E) :=
  (mean_p A0 c0 s A1 c1 d ax w h r0 r1 i1).mono fun _ _ h => h.openN
end Go.Proofs.Ytpnigmcpifilmaa.P
