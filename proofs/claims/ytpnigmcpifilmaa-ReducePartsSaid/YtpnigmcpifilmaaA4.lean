/- Contracts of slices.Equal, shape.Fits and tensor.Full. -/
import Derived.Test.YtpnigmcpifilmaaA3
namespace Go.Proofs.Ytpnigmcpifilmaa.P
open Go.RowKit Go.Proofs.YtpnigmcpifilmaaW.PrintWords Go.Proofs.YtpnigmcpifilmaaW.PrintLast Go.Proofs.YtpnigmcpifilmaaW.PrintMore
set_option linter.unusedVariables false
set_option linter.unusedSimpArgs false
/-- A value is a slice that holds these numbers. -/
def Rd (w : World) (v : Value) (l : List Int) : Prop := ∃ A c, v = .slice A l.length c ∧ l.length ≤ c ∧ Kd.C (Kd.int .i64) w A l.length l
theorem Rd.below {w w' : World} {v : Value} {l : List Int} (h : Rd w v l) (hb : Below w.heap.size w w') : Rd w' v l := by
  obtain ⟨A, c, h1, h2, h3⟩ := h; exact ⟨A, c, h1, h2, Kd.C_below h3 hb⟩
theorem Rd.of_own {w : World} {base : Nat} {v : Value} {l : List Int} (h : w.ownsRow base 3 1 v l.length (nums .i64 l)) : Rd w v l := by
  have h' := h
  rcases h.2 with ⟨rfl, h0⟩ | ⟨g, cap, cur, rfl, _, _, hc, _⟩
  · have : l = [] := List.eq_nil_of_length_eq_zero h0
    subst this
    exact ⟨none, 0, rfl, by simp, toC (own_reads' h')⟩
  · exact ⟨_, cap, rfl, hc, toC (own_reads' h')⟩
theorem Rd.of_R {w : World} {base : Nat} {ok : Nat → Prop} {v : Value} {l : List Int} (h : Kd.R (Kd.int .i64) 3 w base ok v l) : Rd w v l := Rd.of_own (ofR h)
theorem Rd.nil (w : World) : Rd w (.slice none 0 0) [] := ⟨none, 0, rfl, by simp, toC (own_reads' (own_nil w 0 3 1 : w.ownsRow 0 3 1 (.slice none 0 0) ([] : List Int).length (nums .i64 [])))⟩
/-! slices.Equal -/
set_option maxRecDepth 100000 in
theorem equal_any (A0 : Option Addr) (c0 : Nat) (a : List Int) (A1 : Option Addr) (c1 : Nat) (b : List Int) (w : World) (hr0 : Kd.C (Kd.int .i64) w A0 a.length a) (hr1 : Kd.C (Kd.int .i64) w A1 b.length b) (hla : a.length ≤ 1000000) :
    Calls Try.prog 97 #[.slice A0 a.length c0, .slice A1 b.length c1] w fun e w' => e = .returned (.bool (decide (a = b))) ∧ Below w.heap.size w w' := by
  have HR0 := Aside0.mk hr0
  have HR1 := Aside0.mk hr1
  clear hr0 hr1
  by_cases hl : a.length = b.length
  · have d1 : ((a.length : Int) != (b.length : Int)) = false := by rw [bne_eq_false_iff_eq]; omega
    have HL := Aside0.mk hl
    clear hl
    go_enter Try.func97, Try.ntmps97
    go_wp2_with fail
    go_loopg [13] (a.length) (fun g i wr => ∃ k : Nat, i = .int .i64 k ∧ Aside0 (Below w.heap.size w wr) ∧ Aside0 (k ≤ a.length ∧ g = a.length - k ∧ a.take k = b.take k))
    case atStart => exact ⟨0, rfl, ⟨Below.refl _ _⟩, ⟨by omega, by omega, by simp⟩⟩
    case round =>
      obtain ⟨k, rfl, hb, HA⟩ := hrel
      obtain ⟨hk, hg, ht⟩ := HA.out
      by_cases hlt : k < a.length
      · have c1 : decide ((k : Int) < (a.length : Int)) = true := by simpa using hlt
        have c2 : decide (k < a.length) = true := by simpa using hlt
        have hlt2 : k < b.length := by have := HL.out; omega
        obtain ⟨ad, rfl, hx⟩ := Kd.at_int (Kd.C_below HR0.out hb.out) k (by omega) (by omega)
        obtain ⟨ad2, rfl, hy⟩ := Kd.at_int (Kd.C_below HR1.out hb.out) k (by omega) (by omega)
        simp at hx hy
        have ta := take_rd a k hlt
        have tb := take_rd b k hlt2
        obtain ⟨x, hxe⟩ : ∃ x, rd a k = x := ⟨_, rfl⟩
        obtain ⟨y, hye⟩ : ∃ x, rd b k = x := ⟨_, rfl⟩
        rw [hxe] at ta hx
        rw [hye] at tb hy
        have hwi : IntKind.i64.wrap ((k : Int) + 1) = ((k + 1 : Nat) : Int) := by rw [wrap_in _ ⟨by omega, by omega⟩]; omega
        have G := Aside0.mk (And.intro hg hlt)
        by_cases hxy : x = y
        · have e1 : (x != y) = false := by simpa using hxy
          have T : Aside0 (a.take (k + 1) = b.take (k + 1)) := ⟨by rw [ta, tb, ht, hxy]⟩
          clear ta tb hxe hye hxy hk hg ht HA
          go_wp2_with fail
          go_region
          go_wp2_with fail
          go_roundg (a.length - (k + 1))
          case measure => have := G.out; omega
          case rel => exact ⟨k + 1, by first | rfl | simp, ⟨hb.out.drew⟩, ⟨by have := G.out; omega, rfl, T.out⟩⟩
        · have e1 : (x != y) = true := by simpa using hxy
          have T : Aside0 (decide (a = b) = false) := ⟨by
            rw [decide_eq_false_iff_not]; intro h; subst h
            exact hxy (by rw [← hxe, ← hye])⟩
          clear ta tb hxe hye hxy hk hg ht HA
          go_wp2_with fail
          go_region
          go_wp2_with fail
          go_ret
          exact ⟨ret_bool T.out.symm, hb.out.drew⟩
      · have c1 : decide ((k : Int) < (a.length : Int)) = false := by simpa using hlt
        have c2 : decide (k < a.length) = false := by simpa using hlt
        obtain rfl : k = a.length := by omega
        have T : Aside0 (decide (a = b) = true) := ⟨by
          rw [decide_eq_true_eq]
          have := HL.out
          rw [List.take_length, this, List.take_length] at ht; exact ht⟩
        clear hk hg hlt ht HA
        go_wp2_with fail
        go_ret
        exact ⟨ret_bool T.out.symm, hb.out⟩
  · have d1 : ((a.length : Int) != (b.length : Int)) = true := by simp; omega
    have T : Aside0 (decide (a = b) = false) := ⟨by
      rw [decide_eq_false_iff_not]; intro h; exact hl (by rw [h])⟩
    clear hl
    go_enter Try.func97, Try.ntmps97
    go_wp2_with fail
    go_ret
    exact ⟨ret_bool T.out.symm, Below.refl _ _⟩
/-! shape.Fits -/
def fitsS (a b : List Int) : Bool := joinOk a b && decide (joinL a b = b)
theorem joinL_len3 {a b : List Int} (h : joinOk a b = true) : (joinL a b).length ≤ 3 := by
  simp only [joinOk, Bool.and_eq_true] at h
  exact shapeOk_len h.2
theorem join_C (A0 : Option Addr) (c0 : Nat) (a : List Int) (A1 : Option Addr) (c1 : Nat) (b : List Int) (w : World) (hr0 : Kd.C (Kd.int .i64) w A0 a.length a) (hc0 : a.length ≤ c0) (hr1 : Kd.C (Kd.int .i64) w A1 b.length b) (hc1 : b.length ≤ c1) :
    Calls Try.prog 23 #[.slice A0 a.length c0, .slice A1 b.length c1] w fun e w' => ∃ v : Value, e = .returned (.tuple #[v, .int .i64 (if joinOk a b then 0 else 20)]) ∧ Rd w' v (if joinOk a b then joinL a b else []) ∧ Below w.heap.size w w' := by
  have h : shape_Join.f a b = some ((if joinOk a b then joinL a b else []), (if joinOk a b then 0 else 20)) := by
    unfold shape_Join.f; split <;> rfl
  exact (shape_Join.calls A0 c0 a A1 c1 b _ _ w hr0 hc0 hr1 hc1 h).mono fun e w' ⟨v, h1, h2, h3⟩ => ⟨v, h1, Rd.of_R h2, h3⟩
set_option maxRecDepth 100000 in
theorem fits_any (A0 : Option Addr) (c0 : Nat) (a : List Int) (A1 : Option Addr) (c1 : Nat) (b : List Int) (w : World) (hr0 : Kd.C (Kd.int .i64) w A0 a.length a) (hc0 : a.length ≤ c0) (hr1 : Kd.C (Kd.int .i64) w A1 b.length b) (hc1 : b.length ≤ c1) :
    Calls Try.prog 50 #[.slice A0 a.length c0, .slice A1 b.length c1] w fun e w' => e = .returned (.bool (fitsS a b)) ∧ Below w.heap.size w w' := by
  have J := Aside0.mk (join_C A0 c0 a A1 c1 b w hr0 hc0 hr1 hc1)
  have HR1 := Aside0.mk hr1
  clear hr0 hr1 hc0 hc1
  go_enter Try.func50, Try.ntmps50
  go_wp2_with fail
  refine J.out.mono ?_
  by_cases ok : joinOk a b = true
  · rw [ok]
    simp only [if_true]
    have OK := Aside0.mk ok
    clear ok
    rintro e w' ⟨v, rfl, ⟨A, c, rfl, hc, hr⟩, hb⟩
    have HR := Aside0.mk hr
    have HB := Aside0.mk hb
    clear hr hb hc
    go_wp2_with fail
    refine (equal_any A c (joinL a b) A1 c1 b w' HR.out (Kd.C_below HR1.out HB.out) (by have := joinL_len3 OK.out; omega)).mono ?_
    rw [show decide (joinL a b = b) = fitsS a b by rw [fitsS, OK.out]; rfl]
    rintro e w2 ⟨rfl, hb⟩
    have HB2 := Aside0.mk hb
    clear hb
    go_wp2_with fail
    go_ret
    exact ⟨rfl, HB.out.trans (HB2.out.mono HB.out.size)⟩
  · have ok' : joinOk a b = false := by simpa using ok
    have T : Aside0 (fitsS a b = false) := ⟨by rw [fitsS, ok']; rfl⟩
    rw [ok']
    simp only [Bool.false_eq_true, if_false]
    clear ok ok'
    rintro e w' ⟨v, rfl, hv, hb⟩
    have HB := Aside0.mk hb
    clear hb hv
    go_wp2_with fail
    go_ret
    exact ⟨ret_bool T.out.symm, HB.out⟩
/-! tensor.Full -/
theorem own_keep {w w2 : World} {base n : Nat} {e : TypeId} {size : Nat} {v : Value} {xs : List Value} (h : w.ownsRow base e size v n xs) (hk : ∀ g, base ≤ g → g < w.heap.size → w2.heap[g]? = w.heap[g]?) : w2.ownsRow base e size v n xs := by
  refine ⟨h.1, ?_⟩
  rcases h.2 with h2 | ⟨g, cap, cur, h1, h2, h3, h4⟩
  · exact .inl h2
  · exact .inr ⟨g, cap, cur, h1, h2, by rw [hk g h2 (blk_lt h3)]; exact h3, h4⟩
theorem set_far (w : World) (p : Addr) (v : Value) (g : Nat) (h : g ≠ p.block) : (w.setCell p v).heap[g]? = w.heap[g]? := Below.heap_setCell w p v g h
set_option maxRecDepth 100000 in
theorem full_ok (A0 : Option Addr) (c0 : Nat) (s : List Int) (n : Int) (w : World) (hr0 : Kd.C (Kd.int .i64) w A0 s.length s) (hc0 : s.length ≤ c0) (ok : shapeOk s = true) :
    Calls Try.prog 18 #[.slice A0 s.length c0, .int .i64 n] w fun e w' => ∃ v0 v1 : Value, ∃ B : Nat, e = .returned (.tuple #[.agg #[v0, v1], .int .i64 0]) ∧ w.heap.size ≤ B ∧ B ≤ w'.heap.size ∧ (∀ w2, (∀ k, w.heap.size ≤ k → k < B → w2.heap[k]? = w'.heap[k]?) → Rd w2 v0 s) ∧ w'.ownsRow B 3 1 v1 (sizeS s) (nums .i64 (List.replicate (sizeS s) n)) ∧ Below w.heap.size w w' := by
  have HR := Aside0.mk hr0
  have HC := Aside0.mk hc0
  have hl := shapeOk_len ok
  have hbd := shapeOk_bd ok
  have OK := Aside0.mk (And.intro ok hbd)
  clear hr0 hc0 hbd
  go_enter Try.func18, Try.ntmps18
  go_wp2_with fail
  refine (check_any A0 c0 s _ (Kd.C_below HR.out (below_alloc (Below.refl _ _) _))).mono ?_
  rw [ok]
  rintro e w1 ⟨rfl, rfl⟩
  obtain ⟨w1, hw1⟩ : ∃ w1, w.alloc (Obj.cells #[.slice none 0 0, .slice none 0 0] 24) = w1 := ⟨_, rfl⟩
  have BK1 : Aside0 (w1.heap[w.heap.size]? = some (.cells #[.slice none 0 0, .slice none 0 0] 24 (0, 0))) := ⟨by rw [← hw1]; exact blk_new _ _⟩
  have B1 : Aside0 (Below w.heap.size w w1) := ⟨by rw [← hw1]; exact below_alloc (Below.refl _ _) _⟩
  have S1 : Aside0 (w1.heap.size = w.heap.size + 1) := ⟨by rw [← hw1]; exact Array.size_push _⟩
  rw [hw1]
  clear hw1 ok
  go_wp2_with fail
  refine (slices_Clone_int_int.calls A0 c0 s s w1 (Kd.C_below HR.out B1.out) HC.out (by unfold slices_Clone_int_int.f; rw [if_pos (by omega)])).mono ?_
  rintro e w2 ⟨v0, rfl, hr, hb⟩
  obtain ⟨Av, cv, rfl, hcv, hrv⟩ := Rd.of_R hr
  have OW0 := Aside0.mk (ofR hr)
  clear hcv hrv
  have B2 := Aside0.mk hb
  have BK2 := Aside0.mk (blk_below BK1.out hb)
  clear hr hb
  go_wp2_with fail
  have B3 : Aside0 (Below w2.heap.size w2 (w2.alloc (Obj.cells #[.int .i64 n] 3))) := ⟨below_alloc (Below.refl _ _) _⟩
  have RN : Aside0 (ReadsInt (w2.alloc (Obj.cells #[.int .i64 n] 3)) .i64 (some ⟨w2.heap.size, 0, none⟩) 1 [n]) := ⟨own_reads' (own_lit w2 w2.heap.size 3 .i64 [n] (Nat.le_refl _) (by simp))⟩
  have BK3 := Aside0.mk (blk_below BK2.out B3.out)
  have S3 : Aside0 ((w2.alloc (Obj.cells #[.int .i64 n] 3)).heap.size = w2.heap.size + 1) := ⟨Array.size_push _⟩
  obtain ⟨w3, hw3⟩ : ∃ w3, w2.alloc (Obj.cells #[.int .i64 n] 3) = w3 := ⟨_, rfl⟩
  rw [hw3] at B3 RN BK3 S3 ⊢
  clear hw3
  refine (size_sh A0 c0 s _ (Kd.C_below (Kd.C_below (Kd.C_below HR.out B1.out) B2.out) B3.out)).mono ?_
  rintro e w' ⟨rfl, rfl⟩
  go_wp2_with fail
  refine (slices_Repeat_one _ _ n (sizeS s) (by have := OK.out.2; omega) (by have := sizeS_le s; omega) w3 RN.out).mono ?_
  rintro e w4 ⟨v1, rfl, hr, hb⟩
  obtain ⟨Aw, cw, rfl⟩ := own_slice (ofR hr)
  have OW := Aside0.mk (ofR hr)
  have B4 := Aside0.mk hb
  have BK4 := Aside0.mk (blk_below BK3.out hb)
  clear hr hb
  have hc0 : w4.cell? ⟨w.heap.size, 0, none⟩ = some (.slice none 0 0) := (blk_cell BK4.out 0).trans rfl
  have hc1 : w4.cell? ⟨w.heap.size, 1, none⟩ = some (.slice none 0 0) := (blk_cell BK4.out 1).trans rfl
  have hf0 := blk_frozen BK4.out 0
  have hf1 := blk_frozen BK4.out 1
  go_wp2_with fail
  have F4 : Aside0 ((((w4.setCell ⟨w.heap.size, 0, none⟩ (.slice Av s.length cv)).setCell ⟨w.heap.size, 1, none⟩ (.slice Aw (sizeS s) cw))).heap[w.heap.size]? = some (.cells #[.slice Av s.length cv, .slice Aw (sizeS s) cw] 24 (0, 0))) := ⟨blk_put (cs := #[.slice Av s.length cv, .slice none 0 0]) (blk_put (cs := #[.slice none 0 0, .slice none 0 0]) BK4.out 0 _ rfl) 1 _ rfl⟩
  have F5 : Aside0 (∀ g, g ≠ w.heap.size → (((w4.setCell ⟨w.heap.size, 0, none⟩ (.slice Av s.length cv)).setCell ⟨w.heap.size, 1, none⟩ (.slice Aw (sizeS s) cw))).heap[g]? = w4.heap[g]?) := ⟨fun g hg => by rw [set_far _ _ _ _ hg, set_far _ _ _ _ hg]⟩
  have F6 : Aside0 (Below w.heap.size w ((w4.setCell ⟨w.heap.size, 0, none⟩ (.slice Av s.length cv)).setCell ⟨w.heap.size, 1, none⟩ (.slice Aw (sizeS s) cw))) := ⟨by
    have b1 := B1.out.trans (B2.out.mono (by have := S1.out; omega))
    have b2 := b1.trans (B3.out.mono b1.size)
    have b3 := b2.trans (B4.out.mono b2.size)
    exact (b3.setCell (p := ⟨w.heap.size, 0, none⟩) (Nat.le_refl _) _).setCell (p := ⟨w.heap.size, 1, none⟩) (Nat.le_refl _) _⟩
  have F7 : Aside0 (((w4.setCell ⟨w.heap.size, 0, none⟩ (.slice Av s.length cv)).setCell ⟨w.heap.size, 1, none⟩ (.slice Aw (sizeS s) cw)).heap.size = w4.heap.size) := ⟨by simp [World.setCell]⟩
  obtain ⟨wf, hwf⟩ : ∃ wf, ((w4.setCell ⟨w.heap.size, 0, none⟩ (.slice Av s.length cv)).setCell ⟨w.heap.size, 1, none⟩ (.slice Aw (sizeS s) cw)) = wf := ⟨_, rfl⟩
  rw [hwf] at F4 F5 F6 F7 ⊢
  refine bodyPost_ret (results_ct rfl _ _ w.heap.size 24 #[.slice Av s.length cv, .slice Aw (sizeS s) cw] (0, 0) _ rfl F4.out Try.underlying24 rfl (by kernel_rfl)) rfl ?_
  have z1 := S1.out
  have z2 := B2.out.size
  have z3 := S3.out
  have z4 := B4.out.size
  refine ⟨_, _, w3.heap.size, rfl, by omega, by rw [F7.out]; exact z4, fun w5 h5 => ?_, ?_, F6.out⟩
  · refine Rd.of_own (own_keep OW0.out (fun g hg hlt => ?_))
    rw [h5 g (by omega) (by omega), F5.out g (by omega), B4.out.block g (by omega), B3.out.block g (by omega)]
  · have := own_keep OW.out (fun g hg hlt => F5.out g (by omega))
    simpa using this
set_option maxRecDepth 100000 in
theorem full_bad (A0 : Option Addr) (c0 : Nat) (s : List Int) (n : Int) (w : World) (hr0 : Kd.C (Kd.int .i64) w A0 s.length s) (ok : shapeOk s = false) :
    Calls Try.prog 18 #[.slice A0 s.length c0, .int .i64 n] w fun e w' => e = .returned (.tuple #[.agg #[.slice none 0 0, .slice none 0 0], .int .i64 20]) ∧ Below w.heap.size w w' := by
  have HR := Aside0.mk hr0
  clear hr0
  go_enter Try.func18, Try.ntmps18
  go_wp2_with fail
  refine (check_any A0 c0 s _ (Kd.C_below HR.out (below_alloc (Below.refl _ _) _))).mono ?_
  rw [ok]
  clear ok
  rintro e w1 ⟨rfl, rfl⟩
  go_wp2_with fail
  refine bodyPost_ret (results_ct rfl _ _ w.heap.size 24 #[.slice none 0 0, .slice none 0 0] (0, 0) _ rfl (blk_new _ _) Try.underlying24 rfl (by kernel_rfl)) rfl ?_
  exact ⟨rfl, below_alloc (Below.refl _ _) _⟩
end Go.Proofs.Ytpnigmcpifilmaa.P
