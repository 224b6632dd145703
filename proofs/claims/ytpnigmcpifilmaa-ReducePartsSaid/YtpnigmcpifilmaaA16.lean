/- Contracts of fullerref03.Few, fullerref03.Same and fullerref02.Same. -/
import Derived.Test.YtpnigmcpifilmaaA15
namespace Go.Proofs.Ytpnigmcpifilmaa.P
open Go.RowKit Go.Shelf Go.Proofs.YtpnigmcpifilmaaW.PrintWords Go.Proofs.YtpnigmcpifilmaaW.PrintLast Go.Proofs.YtpnigmcpifilmaaW.PrintMore
set_option linter.unusedVariables false
set_option linter.unusedSimpArgs false
/-! what the statements' own words say -/
set_option maxRecDepth 100000 in
theorem same02_any (A0 : Option Addr) (c0 : Nat) (a : List Int) (A1 : Option Addr) (c1 : Nat) (b : List Int) (w : World) (hr0 : Kd.C (Kd.int .i64) w A0 a.length a) (hr1 : Kd.C (Kd.int .i64) w A1 b.length b) :
    Calls Try.prog 39 #[.slice A0 a.length c0, .slice A1 b.length c1] w fun e w' => e = .returned (.bool (decide (a = b))) ∧ Below w.heap.size w w' := by
  have hla := (ofC hr0).2.1
  have HR0 := Aside0.mk hr0
  have HR1 := Aside0.mk hr1
  clear hr0 hr1
  by_cases hl : a.length = b.length
  · have d1 : ((a.length : Int) != (b.length : Int)) = false := by rw [bne_eq_false_iff_eq]; omega
    have HL := Aside0.mk hl
    clear hl
    go_enter Try.func39, Try.ntmps39
    go_wp2_with fail
    go_loopg [5] (a.length) (fun g i wr => ∃ k : Nat, i = .int .i64 k ∧ Aside0 (Below w.heap.size w wr) ∧ Aside0 (k ≤ a.length ∧ g = a.length - k ∧ a.take k = b.take k))
    case atStart => exact ⟨0, rfl, ⟨Below.refl _ _⟩, ⟨by omega, by omega, by simp⟩⟩
    case round =>
      obtain ⟨k, rfl, hb, HA⟩ := hrel
      obtain ⟨hk, hg, ht⟩ := HA.out
      by_cases hlt : k < a.length
      · have c1 : decide ((k : Int) < (a.length : Int)) = true := by simpa using hlt
        have c2 : decide (k < a.length) = true := by simpa using hlt
        have hlt2 : k < b.length := by have := HL.out; omega
        obtain ⟨ad, rfl, hx⟩ := Kd.at_int (Kd.C_below HR0.out hb.out) k (by omega) (by omega)
        obtain ⟨ad2, rfl, hy⟩ := Kd.at_int (Kd.C_below HR1.out hb.out) k (by omega) (by omega)
        simp at hx hy
        have ta := take_rd a k hlt
        have tb := take_rd b k hlt2
        obtain ⟨x, hxe⟩ : ∃ x, rd a k = x := ⟨_, rfl⟩
        obtain ⟨y, hye⟩ : ∃ x, rd b k = x := ⟨_, rfl⟩
        rw [hxe] at ta hx
        rw [hye] at tb hy
        have hwi : IntKind.i64.wrap ((k : Int) + 1) = ((k + 1 : Nat) : Int) := by rw [wrap_in _ ⟨by omega, by omega⟩]; omega
        have G := Aside0.mk (And.intro hg hlt)
        by_cases hxy : x = y
        · have e1 : (x != y) = false := by simpa using hxy
          have T : Aside0 (a.take (k + 1) = b.take (k + 1)) := ⟨by rw [ta, tb, ht, hxy]⟩
          clear ta tb hxe hye hxy hk hg ht HA
          go_wp2_with fail
          go_region
          go_wp2_with fail
          go_roundg (a.length - (k + 1))
          case measure => have := G.out; omega
          case rel => exact ⟨k + 1, by first | rfl | simp, ⟨hb.out.drew⟩, ⟨by have := G.out; omega, rfl, T.out⟩⟩
        · have e1 : (x != y) = true := by simpa using hxy
          have T : Aside0 (decide (a = b) = false) := ⟨by
            rw [decide_eq_false_iff_not]; intro h; subst h
            exact hxy (by rw [← hxe, ← hye])⟩
          clear ta tb hxe hye hxy hk hg ht HA
          go_wp2_with fail
          go_region
          go_wp2_with fail
          go_ret
          exact ⟨ret_bool T.out.symm, hb.out.drew⟩
      · have c1 : decide ((k : Int) < (a.length : Int)) = false := by simpa using hlt
        have c2 : decide (k < a.length) = false := by simpa using hlt
        obtain rfl : k = a.length := by omega
        have T : Aside0 (decide (a = b) = true) := ⟨by
          rw [decide_eq_true_eq]
          have := HL.out
          rw [List.take_length, this, List.take_length] at ht; exact ht⟩
        clear hk hg hlt ht HA
        go_wp2_with fail
        go_ret
        exact ⟨ret_bool T.out.symm, hb.out⟩
  · have d1 : ((a.length : Int) != (b.length : Int)) = true := by simp; omega
    have T : Aside0 (decide (a = b) = false) := ⟨by
      rw [decide_eq_false_iff_not]; intro h; exact hl (by rw [h])⟩
    clear hl
    go_enter Try.func39, Try.ntmps39
    go_wp2_with fail
    go_ret
    exact ⟨ret_bool T.out.symm, Below.refl _ _⟩
def fewB (s d : List Int) : Bool := decide (s.length ≤ 100) && decide (d.length ≤ 100)
set_option maxRecDepth 100000 in
theorem few_any (A0 : Option Addr) (c0 : Nat) (s : List Int) (A1 : Option Addr) (c1 : Nat) (d : List Int) (w : World) :
    Calls Try.prog 15 #[.agg #[.slice A0 s.length c0, .slice A1 d.length c1]] w fun e w' => e = .returned (.bool (fewB s d)) ∧ Below w.heap.size w w' := by
  by_cases h : s.length ≤ 100
  · have e1 : decide ((s.length : Int) ≤ 100) = true := by simp; omega
    have e2 : decide ((d.length : Int) ≤ 100) = fewB s d := by
      unfold fewB; rw [decide_eq_true h, Bool.true_and, Bool.eq_iff_iff, decide_eq_true_eq, decide_eq_true_eq]; omega
    clear h
    go_enter Try.func15, Try.ntmps15
    go_wp2_with fail
    go_ret
    exact ⟨rfl, below_alloc (Below.refl _ _) _⟩
  · have e1 : decide ((s.length : Int) ≤ 100) = false := by simp; omega
    have e2 : Aside0 (fewB s d = false) := ⟨by unfold fewB; rw [decide_eq_false h]; rfl⟩
    clear h
    go_enter Try.func15, Try.ntmps15
    go_wp2_with fail
    go_ret
    exact ⟨ret_bool e2.out.symm, below_alloc (Below.refl _ _) _⟩
def sameB (s d s' d' : List Int) : Bool := decide (s = s') && decide (d = d')
set_option maxRecDepth 100000 in
theorem same03_any (A0 : Option Addr) (c0 : Nat) (s : List Int) (A1 : Option Addr) (c1 : Nat) (d : List Int) (A2 : Option Addr) (c2 : Nat) (s' : List Int) (A3 : Option Addr) (c3 : Nat) (d' : List Int) (w : World)
    (hr0 : Kd.C (Kd.int .i64) w A0 s.length s) (hr1 : Kd.C (Kd.int .i64) w A1 d.length d) (hr2 : Kd.C (Kd.int .i64) w A2 s'.length s') (hr3 : Kd.C (Kd.int .i64) w A3 d'.length d') :
    Calls Try.prog 20 #[.agg #[.slice A0 s.length c0, .slice A1 d.length c1], .agg #[.slice A2 s'.length c2, .slice A3 d'.length c3]] w fun e w' => e = .returned (.bool (sameB s d s' d')) ∧ Below w.heap.size w w' := by
  have HR := Aside0.mk (And.intro hr0 (And.intro hr1 (And.intro hr2 hr3)))
  clear hr0 hr1 hr2 hr3
  obtain ⟨w1, hw1⟩ : ∃ w1, ((w.alloc (Obj.cells #[.slice A0 s.length c0, .slice A1 d.length c1] 24)).alloc (Obj.cells #[.slice A2 s'.length c2, .slice A3 d'.length c3] 24)) = w1 := ⟨_, rfl⟩
  have BT1 : Aside0 (w1.heap[w.heap.size]? = some (.cells #[.slice A0 s.length c0, .slice A1 d.length c1] 24 (0, 0))) := ⟨by rw [← hw1]; exact blk_alloc (blk_new _ _) _⟩
  have BU1 : Aside0 (w1.heap[w.heap.size + 1]? = some (.cells #[.slice A2 s'.length c2, .slice A3 d'.length c3] 24 (0, 0))) := ⟨by rw [← hw1]; have := blk_new (w.alloc (Obj.cells #[.slice A0 s.length c0, .slice A1 d.length c1] 24)) (Obj.cells #[.slice A2 s'.length c2, .slice A3 d'.length c3] 24); rwa [World.size_alloc] at this⟩
  have B1 : Aside0 (Below w.heap.size w w1) := ⟨by rw [← hw1]; exact below_alloc (below_alloc (Below.refl _ _) _) _⟩
  have HW := Aside0.mk hw1
  clear hw1
  go_enter Try.func20, Try.ntmps20
  go_wp2_with fail
  rw [HW.out]
  refine (same02_any A0 c0 s A2 c2 s' w1 (Kd.C_below HR.out.1 B1.out) (Kd.C_below HR.out.2.2.1 B1.out)).mono ?_
  by_cases h : s = s'
  · have HS := Aside0.mk h
    rw [decide_eq_true h]
    clear h
    rintro e w2 ⟨rfl, hb⟩
    have B2 : Aside0 (Below w.heap.size w w2) := ⟨below_then B1.out B1.out.size hb⟩
    have BT2 := Aside0.mk (blk_below BT1.out hb)
    have BU2 := Aside0.mk (blk_below BU1.out hb)
    clear hb
    have p1 : w2.cell? ⟨w.heap.size, 1, none⟩ = some (.slice A1 d.length c1) := (blk_cell BT2.out 1).trans rfl
    have p2 : w2.cell? ⟨w.heap.size + 1, 1, none⟩ = some (.slice A3 d'.length c3) := (blk_cell BU2.out 1).trans rfl
    go_wp2_with fail
    refine (same02_any A1 c1 d A3 c3 d' w2 (Kd.C_below HR.out.2.1 B2.out) (Kd.C_below HR.out.2.2.2 B2.out)).mono ?_
    rw [show decide (d = d') = sameB s d s' d' by unfold sameB; rw [decide_eq_true HS.out]; rfl]
    rintro e w3 ⟨rfl, hb⟩
    have B3 : Aside0 (Below w.heap.size w w3) := ⟨below_then B2.out B2.out.size hb⟩
    clear hb p1 p2
    go_wp2_with fail
    go_ret
    exact ⟨rfl, B3.out⟩
  · have HS : Aside0 (sameB s d s' d' = false) := ⟨by unfold sameB; rw [decide_eq_false h]; rfl⟩
    rw [decide_eq_false h]
    clear h
    rintro e w2 ⟨rfl, hb⟩
    have B2 : Aside0 (Below w.heap.size w w2) := ⟨below_then B1.out B1.out.size hb⟩
    clear hb
    go_wp2_with fail
    go_ret
    exact ⟨ret_bool HS.out.symm, B2.out⟩
end Go.Proofs.Ytpnigmcpifilmaa.P
