/- Ranges over made rows; contracts of shape.Place, tensor.At, and of package move's made and Slice. -/
import Derived.Test.YtpnigmcpifilmaaD3
import Derived.RangeFuncNested
import Derived.RangeFuncBound
import Derived.RangeFuncCalls
import Derived.RangeFuncLeaves
import Derived.Shelf.Abstract
import Derived.Shelf.RegionOpen
import Derived.OwnWalkIn
import Derived.TacticsInMore
import Derived.LoopNIn
import Derived.LoopIn
import Derived.Test.YtpnigmcpifilmaaD5
/- A range over a function that hands out rows of its own making: the rounds are counted, each round knows what it was handed. -/
namespace Go.Proofs.Ytpnigmcpifilmaa.P
open Go.RowKit Go.Shelf Go.Proofs.YtpnigmcpifilmaaW.PrintWords Go.Proofs.YtpnigmcpifilmaaW.PrintLast Go.Proofs.YtpnigmcpifilmaaW.PrintMore
set_option linter.unusedVariables false
set_option linter.unusedSimpArgs false
/-- An iterator that yields N times; of each time it is known what R says. -/
def CountsOut (n : Nat) (P : Program) (g : Nat) (lb : Array Value) (R : Nat → Array Value → World → Prop) (Kp : World → World → Prop) (N : Nat) (w : World) : Prop :=
  ∀ (l : Nat) (J : Nat → World → Prop) (W : World), Below w.heap.size w W → AbidesFrom W.heap.size J →
    (∀ p args W1, p < N → J p W1 → R p args W1 → YieldAt Fence.wide (n - 1) P l args W1 fun e W' => e = .returned (.bool true) ∧ J (p + 1) W' ∧ Kp W1 W') →
    J 0 W → CallsIn Fence.wide n P g (#[.func (.yield l) #[] #[]] ++ lb) W fun e W' => (∃ v, e = .returned v) ∧ J N W'
/-- How the body of a counted round may be left. -/
def cntPost (Kp : World → World → Prop) (I : Nat → World → Prop) (p : Nat) (W : World) : Exit → Act → World → Prop
  | .normal, _, W' => KeepsOthers W W' ∧ Kp W W' ∧ I p W'
  | _, _, _ => False
theorem wpIn_counted {n : Nat} {P : Program} {g : Operand} {ps : Array Tmp} {assign body : Code} {Q : Exit → Act → World → Prop} {a : Act} {w w0 : World} (h1 : 1 ≤ n) {gf : Nat} {lb : Array Value} (hg : a.eval g = .func (.func gf) #[] lb) (eg : ∀ args w, (callFunc gf args).run P w = .ok (.enter gf args) w)
    {R : Nat → Array Value → World → Prop} {Kp : World → World → Prop} {N : Nat} (hseq : CountsOut (n - 1) P gf lb R Kp N w0) (hKt : ∀ {A B C : World}, Kp A B → Kp B C → Kp A C)
    (hKb : ∀ (W : World) (l : Nat) (o o' : Obj), W.heap[l]? = some o → o.isCells = false → Kp W (W.putObj l o')) (hb0 : Below w0.heap.size w0 w) (hps : ∀ p args W, R p args W → args.size = ps.size)
    (hRb : ∀ p args (W : World) (l : Nat) (o o' : Obj), W.heap[l]? = some o → o.isCells = false → R p args W → R p args (W.putObj l o'))
    (I : Nat → World → Prop) (hI : OwnFrom w.heap.size I) (h0 : I 0 w) (a₁ : Array Value → Act)
    (hassign : ∀ (l p : Nat) (args : Array Value) (W : World) (K : Act → World → Prop), R p args W → K (a₁ args) W →
      assign.wpIn (Fence.wide.inRound l) (n - 1 - 1) P (Exit.then K (fun _ _ _ => False)) { tmps := (ps.zip args).foldl (fun t (p, v) => t.setIfInBounds p v) a.tmps, defers := [] } W)
    (hbody : ∀ (l p : Nat) (args : Array Value) (W : World), p < N → I p W → R p args W → body.wpIn (Fence.wide.inRound l) (n - 1 - 1) P (cntPost Kp I (p + 1) W) (a₁ args) W)
    (hdone : ∀ (D : Nat) (W : World), w.heap.size ≤ D → I N W → W.heap[D]? = some (.deferred (some [])) → Q .normal { a with defers := { target := .collected D, args := #[] } :: a.defers } W) :
    (Code.rangeFunc g ps assign body).wpIn Fence.wide n P Q a w := by
  refine wpIn_rangeFunc (fun fn hfn => ?_)
  rw [show Fence.wide.round = none from rfl]
  -- the record of the loop, in its three states
  let rec0 : LoopState → Option Code → Loop := fun st pe => { state := st, pending := pe, fn, tmps := a.tmps, params := ps, assign, body, defers := w.heap.size }
  obtain ⟨V, hV⟩ : ∃ V, (w.alloc (.deferred (some []))).alloc (.loop (rec0 .ready none)) = V := ⟨_, rfl⟩
  have vL : V.heap[w.heap.size + 1]? = some (.loop (rec0 .ready none)) := by
    rw [← hV]; have h := World.alloc_heap_new (w.alloc (.deferred (some []))) (.loop (rec0 .ready none)); rwa [World.size_alloc] at h
  have vD : V.heap[w.heap.size]? = some (.deferred (some [])) := by
    rw [← hV]; exact (Below.heap_alloc _ _ _ (by simp)).trans (World.alloc_heap_new w _)
  have vI : I 0 V := by rw [← hV]; exact hI.alloc _ (hI.alloc _ h0)
  have vS : w.heap.size ≤ V.heap.size := by rw [← hV]; simp; omega
  have vB : Below w0.heap.size w0 V := by
    rw [← hV]; exact hb0.trans ((((Below.refl _ w).alloc (Nat.le_refl _) _).alloc (by simp) _).mono hb0.size)
  refine ⟨w.heap.size + 1, [{ target := .collected w.heap.size, args := #[] }], V, { target := .fn (.func gf) lb, args := #[.func (.yield (w.heap.size + 1)) #[] #[]] }, V, gf,
    #[.func (.yield (w.heap.size + 1)) #[] #[]] ++ lb, V, ?_, ?_, ?_, ?_, fun _ => h1, ?_⟩
  · rw [← hV]; exact run_enterLoop_outer _ _ _ _ _
  · simp only [resolve, hg]
    simp [go_sem]
  · intro f' hf'
    simp [Target.leads] at hf'
    subst hf'
    trivial
  · simp [invoke, go_sem, eg]
  have far : ∀ {A B : World} {row : Option Nat}, (∀ r, row = some r → V.heap.size ≤ r ∧ ∃ o : Obj, A.heap[r]? = some o ∧ o.isWalk = true) → (∀ r, row = some r → w.heap.size ≤ r ∧ ∃ o : Obj, A.heap[r]? = some o ∧ o.isCells = false) :=
    fun hr r e => by obtain ⟨hB, o, ho, hw⟩ := hr r e; exact ⟨by omega, o, ho, Obj.not_cells_of_walk hw⟩
  refine (hseq (w.heap.size + 1) (fun p W => I p W ∧ W.heap[w.heap.size + 1]? = some (.loop (rec0 .ready none)) ∧ W.heap[w.heap.size]? = some (.deferred (some []))) V vB
    (fun s A B row hs hg' hr => ⟨hI s A B row hs.1 hg' (far (B := B) hr), (grownBy_keeps hg' (fun r e => (hr r e).2) hs.2.1 rfl).trans hs.2.1, (grownBy_keeps hg' (fun r e => (hr r e).2) hs.2.2 rfl).trans hs.2.2⟩)
    (fun p args W hp hJ hR => ?_) ⟨vI, vL, vD⟩).mono ?_
  · -- a round
    obtain ⟨hi, hl, hk⟩ := hJ
    have hlt : w.heap.size + 1 < W.heap.size := (Array.getElem?_eq_some_iff.1 hl).1
    have hy := run_yield (P := P) (args := args) hl (hps p args W hR)
    obtain ⟨W2, hW2⟩ : ∃ W2, W.putObj (w.heap.size + 1) (.loop { rec0 .ready none with state := .busy }) = W2 := ⟨_, rfl⟩
    refine ⟨fn, _, assign, body, hy, roundIn_of_wpIn hfn (hassign _ p args W _ hR ⟨W2, (run_beginRound hl rfl).trans (by rw [← hW2]), ?_⟩)⟩
    have l2 : W2.heap[w.heap.size + 1]? = some (.loop { rec0 .ready none with state := .busy }) := by rw [← hW2]; exact World.putObj_heap_same hlt
    have k2 : W2.heap[w.heap.size]? = some (.deferred (some [])) := by rw [← hW2]; exact (World.putObj_heap_other (by omega)).trans hk
    have p2 : Kp W W2 := by rw [← hW2]; exact hKb _ _ _ _ hl rfl
    have i2 : I p W2 := by rw [← hW2]; exact hI.putObj _ hi (by omega) hl rfl
    have r2 : R p args W2 := by rw [← hW2]; exact hRb _ _ _ _ _ _ hl rfl hR
    clear hW2
    refine wpIn_mono (hbody _ p args W2 hp i2 r2) ?_
    rintro e a3 W3 hpost
    cases e with
    | normal =>
      obtain ⟨ko, kk, i3⟩ := hpost
      have l3 := ko.same _ _ l2 rfl
      have r3 := run_endRound (P := P) none l3
      exact ⟨_, _, r3, rfl, ⟨hI.putObj _ i3 (by omega) l3 rfl, World.putObj_heap_same (Array.getElem?_eq_some_iff.1 l3).1, (World.putObj_heap_other (by omega)).trans (ko.same _ _ k2 rfl)⟩, hKt (hKt p2 kk) (hKb _ _ _ _ l3 rfl)⟩
    | ret => exact hpost.elim
    | exit id => exact hpost.elim
    | goto t => exact hpost.elim
    | panic ch => exact hpost.elim
    | outgrown => exact hpost.elim
  · -- behind the iterator
    rintro e W2 ⟨⟨v, rfl⟩, hi, hl, hk⟩
    exact ⟨none, _, run_endLoop (P := P) hl (by simp [rec0]), hdone _ _ (Nat.le_refl _) (hI.putObj _ hi (by omega) hl rfl) ((World.putObj_heap_other (by omega)).trans hk)⟩
end Go.Proofs.Ytpnigmcpifilmaa.P
/- Contracts of shape.Place, tensor.At, move.sided, move.shifted. -/
namespace Go.Proofs.Ytpnigmcpifilmaa.P
open Go.RowKit Go.Shelf Go.Proofs.YtpnigmcpifilmaaW.PrintWords Go.Proofs.YtpnigmcpifilmaaW.PrintLast Go.Proofs.YtpnigmcpifilmaaW.PrintMore
set_option linter.unusedVariables false
set_option linter.unusedSimpArgs false
/-- Where an index stands, by its first k numbers. -/
def plcK (s x : List Int) : Nat → Int
  | 0 => 0
  | k + 1 => plcK s x k * rd s (k : Nat) + rd x (k : Nat)
def inIx (s x : List Int) : Prop := x.length = s.length ∧ ∀ k : Nat, k < s.length → 0 ≤ rd x k ∧ rd x k < rd s k
theorem plcK_bd {s x : List Int} (hs : shapeOk s = true) (hx : inIx s x) : ∀ k, k ≤ s.length → 0 ≤ plcK s x k ∧ plcK s x k < prod (s.take k)
  | 0, _ => by simp [plcK, prod]
  | k + 1, hk => by
    obtain ⟨h1, h2⟩ := plcK_bd hs hx k (by omega)
    obtain ⟨h3, h4⟩ := hx.2 k (by omega)
    have ts : prod (s.take (k + 1)) = prod (s.take k) * rd s (k : Nat) := by rw [take_rd s k (by omega), prod_append]; simp [prod]
    rw [ts]
    simp only [plcK]
    have h5 : (plcK s x k + 1) * rd s (k : Nat) ≤ prod (s.take k) * rd s (k : Nat) := Int.mul_le_mul_of_nonneg_right (by omega) (by omega)
    rw [Int.add_mul] at h5
    have h6 : 0 ≤ plcK s x k * rd s (k : Nat) := Int.mul_nonneg h1 (by omega)
    omega
set_option maxRecDepth 100000 in
theorem place_ok {A0 : Option Addr} {c0 : Nat} {s : List Int} {A1 : Option Addr} {c1 : Nat} {x : List Int} {w : World} (hr0 : Kd.C (Kd.int .i64) w A0 s.length s) (hr1 : Kd.C (Kd.int .i64) w A1 x.length x) (hs : shapeOk s = true) (hx : inIx s x) :
    Calls Try.prog 118 #[.slice A0 s.length c0, .slice A1 x.length c1] w fun e w' => e = .returned (.tuple #[.int .i64 (plcK s x s.length), .int .i64 0]) ∧ w = w' := by
  have HR := Aside0.mk hr0
  have HX := Aside0.mk hr1
  have hb := shapeOk_bd hs
  have HB := Aside0.mk (And.intro hs hx)
  have hl := hb.1
  have hxl := hx.1
  have n1 : ((x.length : Int) != (s.length : Int)) = false := by rw [bne_eq_false_iff_eq]; omega
  clear hr0 hr1 hb hx
  go_enter Try.func118, Try.ntmps118
  go_wp2_with fail
  refine (check_any _ _ s _ HR.out).mono ?_
  rw [hs]
  clear hs
  rintro e w' ⟨rfl, rfl⟩
  go_wp2_with fail
  go_loopg [6, 7, 8, 21] (s.length) (fun g n _ _ i wr => ∃ k : Nat, w = wr ∧ i = .int .i64 k ∧ n = .int .i64 (plcK s x k) ∧ Aside0 (k ≤ s.length ∧ g = s.length - k))
  case atStart => exact ⟨0, rfl, rfl, rfl, ⟨by omega, by omega⟩⟩
  case round =>
    obtain ⟨k, rfl, rfl, rfl, HA⟩ := hrel
    obtain ⟨hk, hg⟩ := HA.out
    by_cases hlt : k < s.length
    · have c1 : decide ((k : Int) < (s.length : Int)) = true := by simpa using hlt
      have c2 : decide (k < s.length) = true := by simpa using hlt
      obtain ⟨ad, rfl, hx0⟩ := Kd.at_int HR.out k (by omega) (by omega)
      obtain ⟨ax, rfl, hx1⟩ := Kd.at_int HX.out k (by omega) (by omega)
      simp only [Int.toNat_natCast] at hx0 hx1
      have hk2 : k < x.length := by omega
      obtain ⟨b1, b2⟩ := HB.out.2.2 k hlt
      have b3 := plcK_bd HB.out.1 HB.out.2 k hk
      have b4 := plcK_bd HB.out.1 HB.out.2 (k + 1) hlt
      have b5 := prod_take_le s HB.out.1 k
      have b6 := prod_take_le s HB.out.1 (k + 1)
      have e1 : plcK s x (k + 1) = plcK s x k * rd s (k : Nat) + rd x (k : Nat) := rfl
      obtain ⟨y, hye⟩ : ∃ y, rd s (k : Nat) = y := ⟨_, rfl⟩
      obtain ⟨z, hze⟩ : ∃ y, rd x (k : Nat) = y := ⟨_, rfl⟩
      obtain ⟨p, hpe⟩ : ∃ y, plcK s x k = y := ⟨_, rfl⟩
      obtain ⟨q, hqe⟩ : ∃ y, plcK s x (k + 1) = y := ⟨_, rfl⟩
      rw [hye] at hx0 b2 e1
      rw [hze] at hx1 b1 b2 e1
      rw [hpe] at b3 e1 ⊢
      rw [hqe] at b4 e1
      have b7 : 0 ≤ p * y := Int.mul_nonneg b3.1 (by omega)
      have d1 : decide (z < 0) = false := by simpa using b1
      have d2 : decide (y ≤ z) = false := by simpa using b2
      have hw1 : IntKind.i64.wrap (p * y) = p * y := wrap_in _ ⟨by omega, by omega⟩
      have hw2 : IntKind.i64.wrap (p * y + z) = q := by rw [← e1, wrap_in _ ⟨by omega, by omega⟩]
      have hwi : IntKind.i64.wrap ((k : Int) + 1) = ((k + 1 : Nat) : Int) := by rw [wrap_in _ ⟨by omega, by omega⟩]; omega
      have G := Aside0.mk (And.intro hg (And.intro hlt hqe))
      clear e1 hye hze hpe hqe b1 b2 b3 b4 b5 b6 b7 hk hg hlt
      go_wp2_with fail
      go_roundg (s.length - (k + 1))
      case measure => have := G.out; omega
      case rel => exact ⟨k + 1, rfl, by first | rfl | simp, by rw [G.out.2.2], ⟨by have := G.out; omega, rfl⟩⟩
    · have c1 : decide ((k : Int) < (s.length : Int)) = false := by simpa using hlt
      have c2 : decide (k < s.length) = false := by simpa using hlt
      obtain rfl : k = s.length := by omega
      clear hk hg hlt
      go_wp2_with fail
      go_ret2
      exact ⟨rfl, rfl⟩
set_option maxRecDepth 100000 in
theorem tat_ok {A0 : Option Addr} {c0 : Nat} {s : List Int} {A1 : Option Addr} {c1 : Nat} {d : List Int} {A2 : Option Addr} {c2 : Nat} {x : List Int} {w : World} (hr0 : Kd.C (Kd.int .i64) w A0 s.length s) (hr1 : Kd.C (Kd.int .i64) w A1 d.length d) (hr2 : Kd.C (Kd.int .i64) w A2 x.length x) (ht : tOk s d = true) (hx : inIx s x) :
    Calls Try.prog 111 #[.agg #[.slice A0 s.length c0, .slice A1 d.length c1], .slice A2 x.length c2] w fun e w' => e = .returned (.tuple #[.int .i64 (rd d (plcK s x s.length)), .int .i64 0]) ∧ Below w.heap.size w w' := by
  have HR := Aside0.mk hr0
  have HD := Aside0.mk hr1
  have HX := Aside0.mk hr2
  have hs := ((tOk_iff _ _).1 ht).1
  have hdl := ((tOk_iff _ _).1 ht).2
  have hpb := plcK_bd hs hx s.length (Nat.le_refl _)
  rw [List.take_length, ← sizeS_eq hs] at hpb
  have HB := Aside0.mk (And.intro hs hx)
  have hsz := sizeS_le s
  have HT := Aside0.mk ht
  have HDL := Aside0.mk hdl
  clear hdl
  have hb : Aside0 (Below w.heap.size w (w.alloc (.cells #[.slice A0 s.length c0, .slice A1 d.length c1] 24))) := ⟨below_alloc (Below.refl _ _) _⟩
  clear hr0 hr1 hr2 hs hx ht
  go_enter Try.func111, Try.ntmps111
  go_wp2_with fail
  obtain ⟨w1, hw1⟩ : ∃ w1, (w.alloc (.cells #[.slice A0 s.length c0, .slice A1 d.length c1] 24)) = w1 := ⟨_, rfl⟩
  have BT1 : Aside0 (w1.heap[w.heap.size]? = some (.cells #[.slice A0 s.length c0, .slice A1 d.length c1] 24 (0, 0))) := ⟨by rw [← hw1]; exact blk_new _ _⟩
  rw [hw1] at hb ⊢
  clear hw1
  refine (tcheck_any A0 c0 s A1 c1 d w1 (Kd.C_below HR.out hb.out)).mono ?_
  rw [HT.out]
  rintro e w2 ⟨rfl, hb2⟩
  have B2 := Aside0.mk (below_then hb.out hb.out.size hb2)
  have BT2 := Aside0.mk (blk_below BT1.out hb2)
  have q1 : w2.cell? ⟨w.heap.size, 0, none⟩ = some (.slice A0 s.length c0) := (blk_cell BT2.out 0).trans rfl
  have q2 : w2.cell? ⟨w.heap.size, 1, none⟩ = some (.slice A1 d.length c1) := (blk_cell BT2.out 1).trans rfl
  clear hb2 hb
  go_wp2_with fail
  refine (place_ok (Kd.C_below HR.out B2.out) (Kd.C_below HX.out B2.out) HB.out.1 HB.out.2).mono ?_
  rintro e w3 ⟨rfl, rfl⟩
  obtain ⟨p, hp⟩ : ∃ p, plcK s x s.length = p := ⟨_, rfl⟩
  rw [hp] at hpb ⊢
  obtain ⟨p, rfl⟩ := Int.eq_ofNat_of_zero_le hpb.1
  have HP := Aside0.mk hp
  clear hp
  have hpd : p < d.length := by have := HDL.out; omega
  obtain ⟨ad, rfl, hx0⟩ := Kd.at_int (Kd.C_below HD.out B2.out) (p : Int) (by omega) (by omega)
  clear hsz
  simp only [Int.toNat_natCast] at hx0
  clear hpb
  go_wp2_with fail
  go_ret2
  exact ⟨ret_val (by rw [HP.out]; rfl), B2.out⟩
set_option maxRecDepth 100000 in
theorem sided_ok {A0 : Option Addr} {c0 : Nat} {s : List Int} (a : Nat) (n : Int) {w : World} (r0 : Rd w (.slice A0 s.length c0) s) (ha : a < s.length) (hl : s.length ≤ 1000) :
    Calls Try.prog 87 #[.slice A0 s.length c0, .int .i64 (a : Nat), .int .i64 n] w fun e w' => ∃ v, e = .returned v ∧ Kd.R (Kd.int .i64) 3 w' w.heap.size (fun _ => True) v (s.set a n) ∧ Below w.heap.size w w' := by
  have R0 := Aside0.mk r0
  clear r0
  go_enter Try.func87, Try.ntmps87
  go_wp2_with fail
  refine (slices_Clone_int_int.calls A0 c0 s s w R0.out.c.1 R0.out.c.2 (by unfold slices_Clone_int_int.f; rw [if_pos (by omega)])).mono ?_
  rintro e w1 ⟨v, rfl, hr, hb⟩
  have ho := ofR hr
  clear hr
  obtain ⟨A, c, rfl⟩ := own_slice ho
  obtain ⟨g, rfl, hg1, hg2⟩ := own_some ho (by omega)
  have hc := own_at ho (a : Int) (by omega) (by omega)
  have hst := (own_store ho (a : Int) n).1
  simp only [Int.toNat_natCast] at hc hst
  obtain ⟨hc1, hc2⟩ := hc
  have O := Aside0.mk hst
  have B := Aside0.mk (And.intro hb hg1)
  clear ho hst hb
  go_wp2_with fail
  go_ret
  refine ⟨_, rfl, toR (by rw [List.length_set]; exact O.out) (fun _ _ => trivial), B.out.1.setCell (p := ⟨g, a, none⟩) B.out.2 _⟩
set_option maxRecDepth 100000 in
theorem shifted_ok {A0 : Option Addr} {c0 : Nat} {s : List Int} {A1 : Option Addr} {c1 : Nat} {d : List Int} {A2 : Option Addr} {c2 : Nat} {x : List Int} (a : Nat) (m : Int) {w : World} (r0 : Rd w (.slice A0 s.length c0) s) (r1 : Rd w (.slice A1 d.length c1) d) (r2 : Rd w (.slice A2 x.length c2) x)
    (ht : tOk s d = true) (ha : a < x.length) (hx : inIx s (x.set a (rd x (a : Nat) + m))) (hm : isI64 (rd x (a : Nat) + m)) :
    Calls Try.prog 89 #[.agg #[.slice A0 s.length c0, .slice A1 d.length c1], .slice A2 x.length c2, .int .i64 (a : Nat), .int .i64 m] w fun e w' => e = .returned (.int .i64 (rd d (plcK s (x.set a (rd x (a : Nat) + m)) s.length))) ∧ Below w.heap.size w w' := by
  have R0 := Aside0.mk r0
  have R1 := Aside0.mk r1
  have R2 := Aside0.mk r2
  have HT := Aside0.mk ht
  have HX := Aside0.mk hx
  have hl : x.length ≤ 3 := by
    have := hx.1
    rw [List.length_set] at this
    have := (shapeOk_bd ((tOk_iff _ _).1 ht).1).1
    omega
  have hb : Aside0 (Below w.heap.size w (w.alloc (.cells #[.slice A0 s.length c0, .slice A1 d.length c1] 24))) := ⟨below_alloc (Below.refl _ _) _⟩
  have wm : IntKind.i64.wrap (rd x (a : Nat) + m) = rd x (a : Nat) + m := wrap_in _ (by unfold isI64 at hm; omega)
  clear r0 r1 r2 ht hx hm
  go_enter Try.func89, Try.ntmps89
  go_wp2_with fail
  obtain ⟨w1, hw1⟩ : ∃ w1, (w.alloc (.cells #[.slice A0 s.length c0, .slice A1 d.length c1] 24)) = w1 := ⟨_, rfl⟩
  have BT1 : Aside0 (w1.heap[w.heap.size]? = some (.cells #[.slice A0 s.length c0, .slice A1 d.length c1] 24 (0, 0))) := ⟨by rw [← hw1]; exact blk_new _ _⟩
  rw [hw1] at hb ⊢
  clear hw1
  refine (slices_Clone_int_int.calls A2 c2 x x w1 (R2.out.below hb.out).c.1 (R2.out.below hb.out).c.2 (by unfold slices_Clone_int_int.f; rw [if_pos (by omega)])).mono ?_
  rintro e w2 ⟨v, rfl, hr, hb2⟩
  have ho := ofR hr
  clear hr
  obtain ⟨A, c, rfl⟩ := own_slice ho
  obtain ⟨g, rfl, hg1, hg2⟩ := own_some ho (by omega)
  have hc := own_at ho (a : Int) (by omega) (by omega)
  have hst := (own_store ho (a : Int) (rd x (a : Nat) + m)).1
  simp only [Int.toNat_natCast] at hc hst
  obtain ⟨hc1, hc2⟩ := hc
  obtain ⟨y, hy⟩ : ∃ y, rd x (a : Nat) = y := ⟨_, rfl⟩
  rw [hy] at hc1 wm hst HX
  have HY := Aside0.mk hy
  have B3 : Aside0 (Below w.heap.size w (w2.setCell ⟨g, a, none⟩ (.int .i64 (y + m)))) := ⟨(below_then hb.out hb.out.size hb2).setCell (p := ⟨g, a, none⟩) (by have := hb.out.size; show w.heap.size ≤ g; omega) _⟩
  have BT3 := Aside0.mk (blk_below BT1.out (hb2.setCell (p := ⟨g, a, none⟩) hg1 (.int .i64 (y + m))))
  have O := Aside0.mk (Rd.of_own (l := x.set a (y + m)) (by rw [List.length_set]; exact hst))
  clear ho hst hb hb2 hy hg1 hg2 BT1
  obtain ⟨w3, hw3⟩ : ∃ w3, (w2.setCell ⟨g, a, none⟩ (.int .i64 (y + m))) = w3 := ⟨_, rfl⟩
  have q1 : (w2.setCell ⟨g, a, none⟩ (.int .i64 (y + m))).cell? ⟨w.heap.size, 0, none⟩ = some (.slice A0 s.length c0) := (blk_cell BT3.out 0).trans rfl
  have q2 : (w2.setCell ⟨g, a, none⟩ (.int .i64 (y + m))).cell? ⟨w.heap.size, 1, none⟩ = some (.slice A1 d.length c1) := (blk_cell BT3.out 1).trans rfl
  rw [hw3] at B3 BT3 O
  have W3 := Aside0.mk hw3
  clear hw3
  go_wp2_with fail
  rw [W3.out]
  clear q1 q2 hc1 hc2 wm
  have hlx : x.length = (x.set a (y + m)).length := by rw [List.length_set]
  rw [hlx] at O ⊢
  refine (tat_ok (R0.out.below B3.out).c.1 (R1.out.below B3.out).c.1 O.out.c.1 HT.out HX.out).mono ?_
  rintro e w4 ⟨rfl, hb4⟩
  have B4 := Aside0.mk (below_then B3.out B3.out.size hb4)
  obtain ⟨z, hz⟩ : ∃ z, rd d (plcK s (x.set a (y + m)) s.length) = z := ⟨_, rfl⟩
  rw [hz]
  have HZ := Aside0.mk hz
  clear hb4 hlx hz
  go_wp2_with fail
  go_ret
  exact ⟨ret_val (by rw [HY.out, HZ.out]; rfl), B4.out⟩
end Go.Proofs.Ytpnigmcpifilmaa.P
/- Contract of move.indices' iterator: it hands out each index of a shape, by their places. -/
namespace Go.Proofs.Ytpnigmcpifilmaa.P
open Go.RowKit Go.Shelf Go.Proofs.YtpnigmcpifilmaaW.PrintWords Go.Proofs.YtpnigmcpifilmaaW.PrintLast Go.Proofs.YtpnigmcpifilmaaW.PrintMore
set_option linter.unusedVariables false
set_option linter.unusedSimpArgs false
attribute [local go_sem] Oper.semAt_some
/-- Every block of cells below B is kept, but for g. -/
structure KpB (B g : Nat) (W W' : World) : Prop where
  size : W.heap.size ≤ W'.heap.size
  same : ∀ (k : Nat) (o : Obj), k < B → k ≠ g → W.heap[k]? = some o → o.isCells = true → W'.heap[k]? = some o
theorem KpB.refl (B g : Nat) (W : World) : KpB B g W W := ⟨Nat.le_refl _, fun _ _ _ _ h _ => h⟩
theorem KpB.trans {B g : Nat} {X Y Z : World} (h : KpB B g X Y) (k : KpB B g Y Z) : KpB B g X Z := ⟨Nat.le_trans h.size k.size, fun i o hb hi ho hc => k.same i o hb hi (h.same i o hb hi ho hc) hc⟩
theorem KpB.of_below {B g : Nat} {W W' : World} (h : Below W.heap.size W W') : KpB B g W W' := ⟨h.size, fun k o _ _ ho _ => (h.block k (Array.getElem?_eq_some_iff.1 ho).1).trans ho⟩
theorem KpB.put {B g : Nat} (W : World) (l : Nat) (o o' : Obj) (h : W.heap[l]? = some o) (ho : o.isCells = false) : KpB B g W (W.putObj l o') :=
  ⟨by simp, fun k o'' _ _ hk hc => by
    by_cases e : k = l
    · subst e; rw [h] at hk; cases hk; rw [ho] at hc; cases hc
    · exact (World.putObj_heap_other e).trans hk⟩
theorem KpB.cell {B g : Nat} {W W' : World} (h : KpB B g W W') {a : Addr} {v : Value} (hc : W.cell? a = some v) (hb : a.block < B) (hg : a.block ≠ g) : W'.cell? a = some v := by
  obtain ⟨o, ho, hk⟩ := cells_of_cell hc
  have := h.same _ o hb hg ho hk
  exact (World.cell?_of_block (this.trans ho.symm)).trans hc
theorem KpB.reads {B g : Nat} {W W' : World} (h : KpB B g W W') {A : Option Addr} {n : Nat} {xs : List Int} (hc : Kd.C (Kd.int .i64) W A n xs) (hg : ∀ ad, A = some ad → 0 < n → ad.block < B ∧ ad.block ≠ g) : Kd.C (Kd.int .i64) W' A n xs := by
  have hr := ofC hc
  refine toC ⟨hr.1, hr.2.1, fun hn => ?_⟩
  obtain ⟨ad, e, hx⟩ := hr.2.2 hn
  exact ⟨ad, e, fun j hj => h.cell (hx j hj) (by have := (hg ad e hn).1; unfold Addr.add; split <;> simpa using this) (by have := (hg ad e hn).2; unfold Addr.add; split <;> simpa using this)⟩
/-- What the iterator yields at a place. -/
def IxA (s : List Int) (p : Nat) (args : Array Value) (W : World) : Prop := ∃ A c, args = #[.slice A (idxL s (p : Int)).length c] ∧ Rd W (.slice A (idxL s (p : Int)).length c) (idxL s (p : Int))
theorem IxA.put {s : List Int} (p : Nat) (args : Array Value) (W : World) (l : Nat) (o o' : Obj) (h : W.heap[l]? = some o) (ho : o.isCells = false) (hr : IxA s p args W) : IxA s p args (W.putObj l o') := by
  obtain ⟨A, c, e, A', c', e', h1, h2⟩ := hr
  cases e'
  refine ⟨A, c, e, A, c, rfl, h1, ?_⟩
  cases A with
  | none => exact (KpB.put (B := 0) (g := 0) W l o o' h ho).reads h2 (fun ad e => by cases e)
  | some ad => exact (KpB.put (B := ad.block + 1) (g := ad.block + 1) W l o o' h ho).reads h2 (fun ad' e _ => by cases e; omega)
set_option maxRecDepth 100000 in
theorem idx1_in (n l Bs B gb : Nat) (hn : 1 ≤ n) (As : Option Addr) (cs : Nat) (s : List Int) (hs : shapeOk s = true)
    (J : Nat → World → Prop) (W : World) (hJ : AbidesFrom W.heap.size J)
    (hY : ∀ (p : Nat) args W1, p < sizeS s → J p W1 → IxA s p args W1 → YieldAt Fence.wide (n - 1) Try.prog l args W1 fun e W' => e = .returned (.bool true) ∧ J (p + 1) W' ∧ KpB B gb W1 W')
    (hBs : W.cell? ⟨Bs, 0, none⟩ = some (.slice As s.length cs)) (hB1 : Bs < B) (hB2 : Bs ≠ gb)
    (hrs : Kd.C (Kd.int .i64) W As s.length s) (hsA : ∀ ad, As = some ad → 0 < s.length → ad.block < B ∧ ad.block ≠ gb) (h0 : J 0 W) :
    CallsIn Fence.wide n Try.prog 117 #[.func (.yield l) #[] #[], .pointer (some ⟨Bs, 0, none⟩)] W fun e W' => (∃ v, e = .returned v) ∧ J (sizeS s) W' := by
  have HS := Aside0.mk hrs
  have HY := Aside0.mk hY
  have HJ := Aside0.mk hJ
  have HA := Aside0.mk hsA
  have H0 := Aside0.mk h0
  have OK := Aside0.mk hs
  clear hrs hY hJ hsA h0 hs
  refine callsIn_of_wp Try.func117 rfl trivial ?_ rfl
  simp only [Try.ntmps117, List.size_toArray, List.length_cons, List.length_nil, Nat.reduceAdd, Nat.reduceSub, Array.replicate_succ, Array.replicate_zero, List.push_toArray, List.append_toArray, List.nil_append, List.cons_append]
  gi_wp2_with fail
  refine ⟨trivial, ?_⟩
  refine (callsIn_wide.2 (size_sh As cs s W HS.out)).mono ?_
  rintro e w' ⟨rfl, rfl⟩
  gi_wp2_with fail
  obtain ⟨w2, rfl⟩ : ∃ w2, w2 = W := ⟨_, rfl⟩
  obtain ⟨N, hN⟩ : ∃ N, N = sizeS s := ⟨_, rfl⟩
  have hN64 : N ≤ 64 := by rw [hN]; exact sizeS_le s
  rw [← hN]
  have NN := Aside0.mk hN
  clear hN
  gi_loopw [8] (fun i wp => ∃ p : Nat, i = .int .i64 p ∧ Aside0 (J p wp) ∧ Aside0 (KpB B gb w2 wp) ∧ Aside0 (p ≤ N)) (fun i _ => N - (intOf i).toNat)
  case atStart => exact ⟨0, rfl, H0, ⟨KpB.refl _ _ _⟩, ⟨by omega⟩⟩
  case round =>
    obtain ⟨p, rfl, hJp, hkp, hp⟩ := hrel
    have hp1 := hp.out
    have hBs1 := hkp.out.cell hBs hB1 hB2
    obtain ⟨w3, rfl⟩ : ∃ w3, w3 = wr := ⟨_, rfl⟩
    have RG : Aside0 (Kd.C (Kd.int .i64) w3 As s.length s) := ⟨hkp.out.reads HS.out HA.out⟩
    clear hBs
    by_cases hlt : p < N
    · have c1 : decide ((p : Int) < (N : Int)) = true := by simpa using hlt
      have c2 : decide (p < N) = true := by simpa using hlt
      have PL := Aside0.mk hlt
      clear hlt
      gi_wp2_with fail
      refine ⟨trivial, ?_⟩
      refine (callsIn_wide.2 (index_any As cs s (p : Int) w3 RG.out (by omega) (by have := PL.out; have := NN.out; omega))).mono ?_
      rintro e w4 ⟨v0, rfl, hr, hb4⟩
      obtain ⟨Ax, cx, rfl⟩ := own_slice (ofR hr)
      have B4 := Aside0.mk hb4
      have J4 : Aside0 (J p w4) := ⟨HJ.out _ _ _ none hJp.out (grown_of_below hb4) (fun r e => by cases e)⟩
      obtain ⟨fn, tmps, assign, body, hy, hR⟩ := HY.out p _ w4 (by have := PL.out; have := NN.out; omega) J4.out ⟨Ax, cx, rfl, Rd.of_R hr⟩
      clear hr hb4
      have R := Aside0.mk hR
      clear hR
      gi_wp2_with fail
      refine R.out.mono ?_
      rintro e W5 ⟨rfl, hJ5, hk5⟩
      have w3' : IntKind.i64.wrap ((p : Int) + 1) = ((p + 1 : Nat) : Int) := by rw [wrap_in _ ⟨by omega, by omega⟩]; omega
      have J5 := Aside0.mk hJ5
      have K5 := Aside0.mk hk5
      clear hJ5 hk5
      gi_wp2_with fail
      go_roundw
      case rel => exact ⟨p + 1, by first | rfl | simp, J5, ⟨(hkp.out.trans (KpB.of_below B4.out)).trans K5.out⟩, ⟨PL.out⟩⟩
      case measure => have := PL.out; simp [intOf]; omega
    · obtain rfl : p = N := by omega
      have c1 : decide ((p : Int) < (p : Int)) = false := by simp
      have c2 : decide (p < p) = false := by simp
      clear hlt hp1
      gi_wp2_with fail
      go_end0
      exact ⟨⟨_, rfl⟩, by rw [← NN.out]; exact hJp.out⟩
theorem idx_counts (n Bs B gb : Nat) (hn : 1 ≤ n) (As : Option Addr) (cs : Nat) (s : List Int) (hs : shapeOk s = true) (w : World)
    (hBs : w.cell? ⟨Bs, 0, none⟩ = some (.slice As s.length cs)) (hB1 : Bs < B) (hB2 : Bs ≠ gb) (hrs : Kd.C (Kd.int .i64) w As s.length s) (hsA : ∀ ad, As = some ad → 0 < s.length → ad.block < B ∧ ad.block ≠ gb) :
    CountsOut n Try.prog 117 #[.pointer (some ⟨Bs, 0, none⟩)] (IxA s) (KpB B gb) (sizeS s) w := fun l J W hW hJ hY h0 =>
  idx1_in n l Bs B gb hn As cs s hs J W hJ (fun p args W1 hp hj hr => hY p args W1 hp hj hr) (pw_cell_below hW hBs) hB1 hB2 (Kd.C_below hrs hW) hsA h0
set_option maxRecDepth 100000 in
theorem indices_any (A0 : Option Addr) (c0 n0 : Nat) (w : World) :
    Calls Try.prog 110 #[.slice A0 n0 c0] w fun e w' => e = .returned (.func (.func 117) #[] #[.pointer (some ⟨w.heap.size, 0, none⟩)]) ∧ w' = w.alloc (.cells #[.slice A0 n0 c0] 22) := by
  go_enter Try.func110, Try.ntmps110
  go_wp2_with fail
  go_ret
  exact ⟨rfl, rfl⟩
end Go.Proofs.Ytpnigmcpifilmaa.P
/- Contract of move.made: a tensor whose number at each index a function value tells. -/
namespace Go.Proofs.Ytpnigmcpifilmaa.P
open Go.RowKit Go.Shelf Go.Proofs.YtpnigmcpifilmaaW.PrintWords Go.Proofs.YtpnigmcpifilmaaW.PrintLast Go.Proofs.YtpnigmcpifilmaaW.PrintMore
set_option linter.unusedVariables false
set_option linter.unusedSimpArgs false
attribute [local go_sem] Oper.semAt_some
/-- A region with one store at its end, in a round of a range over a function. -/
theorem start_round {l n : Nat} {P : Program} {id : Nat} {Q : Exit → Act → World → Prop} {S : World → Prop} {ds : List Nat} {a : Act} {w : World} {ops : List Oper} {N : Nat} (lb : Array Bool) (hQ : ¬ LetsOut Q) (hd : noDefer ops = true) (hm : P.follows .mixedOrders = true) (hn : ops.toArray.size = N) (hl : Array.replicate N false = lb) (hS : S w.drew)
    (h : S w.drew → wpAnyLast P .any ops.toArray Q S ds N lb a w.drew) : (Code.region id ops.toArray true).wpIn (Fence.wide.inRound l) n P Q a w := by
  subst hn
  subst hl
  exact wpIn_region_any hm (wpAny_round hQ (noDefer_spec hd) _ _ _ _ (wpAny_of_last _ _ _ _ (h hS)))
def numsTo (G : Nat → Int) (k : Nat) : List Int := (List.range k).map G
theorem numsTo_len (G : Nat → Int) (k : Nat) : (numsTo G k).length = k := by simp [numsTo]
theorem numsTo_succ (G : Nat → Int) (k : Nat) : numsTo G (k + 1) = numsTo G k ++ [G k] := by simp [numsTo, List.range_succ]
set_option maxRecDepth 100000 in
theorem made_ok (gf : Nat) (caps : Array Value) (G : Nat → Int) (A0 : Option Addr) (c0 : Nat) (s : List Int) (w : World) (hs : shapeOk s = true) (r0 : Rd w (.slice A0 s.length c0) s)
    (hA0 : ∀ ad, A0 = some ad → 0 < s.length → ad.block < w.heap.size)
    (hen : ∀ args w, (callFunc gf args).run Try.prog w = .ok (.enter gf args) w)
    (hat : ∀ p W A c, p < sizeS s → Below w.heap.size w W → Rd W (.slice A (idxL s (p : Int)).length c) (idxL s (p : Int)) → Calls Try.prog gf (#[.slice A (idxL s (p : Int)).length c] ++ caps) W fun e w' => e = .returned (.int .i64 (G p)) ∧ Below W.heap.size W w') :
    Calls Try.prog 86 #[.slice A0 s.length c0, .func (.func gf) #[] caps] w fun e w' => ∃ v1, e = .returned (.tuple #[.agg #[.slice A0 s.length c0, v1], .int .i64 0]) ∧ w'.ownsRow w.heap.size 3 1 v1 (sizeS s) (nums .i64 (numsTo G (sizeS s))) ∧ Below w.heap.size w w' := by
  refine (callsIn_wide (n := 9)).1 ?_
  refine callsIn_of_wp_marks Try.func86 rfl trivial ?_ rfl
  simp only [Try.ntmps86, List.size_toArray, List.length_cons, List.length_nil, Nat.reduceAdd, Nat.reduceSub, Array.replicate_succ, Array.replicate_zero, List.push_toArray, List.append_toArray, List.nil_append, List.cons_append]
  have HS := Aside0.mk hs
  have R0 := Aside0.mk r0
  have HA0 := Aside0.mk hA0
  have HAT := Aside0.mk hat
  have HEN := Aside0.mk hen
  clear hs r0 hA0 hat hen
  obtain ⟨w1, hw1⟩ : ∃ w1, (((w.alloc (Obj.cells #[.func (.func gf) #[] caps] 62)).alloc (Obj.cells #[.slice none 0 0, .slice none 0 0] 24)).alloc (Obj.cells #[.slice A0 s.length c0, .slice none 0 0] 24)) = w1 := ⟨_, rfl⟩
  have W1 := Aside0.mk hw1
  clear hw1
  gi_wp2_with fail
  rw [W1.out]
  have S1 : Aside0 (w1.heap.size = w.heap.size + 1 + 1 + 1) := ⟨by rw [← W1.out]; simp only [World.size_alloc]⟩
  have B1 : Aside0 (Below w.heap.size w w1) := ⟨by rw [← W1.out]; exact below_alloc (below_alloc (below_alloc (Below.refl _ _) _) _) _⟩
  have BF1 : Aside0 (w1.heap[w.heap.size]? = some (.cells #[.func (.func gf) #[] caps] 62 (0, 0))) := ⟨by rw [← W1.out]; exact blk_alloc (blk_alloc (blk_new _ _) _) _⟩
  have BR1 : Aside0 (w1.heap[w.heap.size + 1]? = some (.cells #[.slice none 0 0, .slice none 0 0] 24 (0, 0))) := ⟨by rw [← W1.out]; refine blk_alloc ?_ _; have := blk_new (w.alloc (Obj.cells #[.func (.func gf) #[] caps] 62)) (Obj.cells #[.slice none 0 0, .slice none 0 0] 24); rwa [World.size_alloc] at this⟩
  have BO1 : Aside0 (w1.heap[w.heap.size + 1 + 1]? = some (.cells #[.slice A0 s.length c0, .slice none 0 0] 24 (0, 0))) := ⟨by rw [← W1.out]; have := blk_new ((w.alloc (Obj.cells #[.func (.func gf) #[] caps] 62)).alloc (Obj.cells #[.slice none 0 0, .slice none 0 0] 24)) (Obj.cells #[.slice A0 s.length c0, .slice none 0 0] 24); rwa [World.size_alloc, World.size_alloc] at this⟩
  clear W1
  refine ⟨trivial, ?_⟩
  refine (callsIn_wide.2 (indices_any A0 c0 s.length w1)).mono ?_
  rintro e w2 ⟨rfl, hw2⟩
  have S2 : Aside0 (w2.heap.size = w.heap.size + 1 + 1 + 1 + 1) := ⟨by rw [hw2, World.size_alloc, S1.out]⟩
  have hb : Below w1.heap.size w1 w2 := by rw [hw2]; exact below_alloc (Below.refl _ _) _
  have BI2 : Aside0 (w2.heap[w.heap.size + 1 + 1 + 1]? = some (.cells #[.slice A0 s.length c0] 22 (0, 0))) := ⟨by rw [hw2, ← S1.out]; exact blk_new _ _⟩
  rw [S1.out]
  have B2 := Aside0.mk (below_then B1.out B1.out.size hb)
  have BF2 := Aside0.mk (blk_below BF1.out hb)
  have BR2 := Aside0.mk (blk_below BR1.out hb)
  have BO2 := Aside0.mk (blk_below BO1.out hb)
  clear hw2 hb S1 B1 BF1 BR1 BO1
  gi_wp2_with fail
  have hI : ∀ (W : World), w2.heap.size ≤ W.heap.size → OwnFrom W.heap.size (fun (k : Nat) (W : World) => ∃ v, W.ownsRow w2.heap.size 3 1 v k (nums .i64 (numsTo G k)) ∧ W.heap[w.heap.size + 1 + 1]? = some (.cells #[.slice A0 s.length c0, v] 24 (0, 0)) ∧ KpB w2.heap.size (w.heap.size + 1 + 1) w2 W ∧ Below w.heap.size w W) :=
    fun W0 hW0 k W W' row ⟨v, h1, h2, h3, h4⟩ hg hr => ⟨v, own_ownFrom W0.heap.size _ _ _ v k (fun (_ : Unit) => nums .i64 (numsTo G k)) () W W' row h1 hg hr,
      (grownBy_keeps_cells hg (fun r e => (hr r e).2) h2 rfl).trans h2,
      ⟨Nat.le_trans h3.size hg.size, fun k o hb hn ho hc => (grownBy_keeps_cells hg (fun r e => (hr r e).2) (h3.same k o hb hn ho hc) hc).trans (h3.same k o hb hn ho hc)⟩,
      ownFrom_below (β := Unit) (Nat.le_refl _) (by have := S2.out; omega) () W W' row h4 hg hr⟩
  refine wpIn_counted (n := 9) (by omega) (gf := 117) (lb := #[.pointer (some ⟨w.heap.size + 1 + 1 + 1, 0, none⟩)]) rfl (enters_of Try.func117 (by kernel_rfl) rfl)
    (idx_counts 8 (w.heap.size + 1 + 1 + 1) w2.heap.size (w.heap.size + 1 + 1) (by omega) A0 c0 s HS.out w2 ((blk_cell BI2.out 0).trans rfl) (by have := S2.out; omega) (by omega) (R0.out.below B2.out).c.1 (fun ad e h => by have := HA0.out ad e h; have := S2.out; omega))
    (fun h k => h.trans k) (fun W l o o' h ho => KpB.put W l o o' h ho) (Below.refl _ _) (fun p args W h => by obtain ⟨A, c, rfl, _⟩ := h; rfl) IxA.put
    _ (hI w2 (Nat.le_refl _)) ⟨.slice none 0 0, own_nil w2 _ _ _, BO2.out, KpB.refl _ _ _, B2.out⟩
    (fun args => { tmps := #[.slice A0 s.length c0, .func (.func gf) #[] caps, undef, .pointer (some ⟨w.heap.size, 0, none⟩), .pointer (some ⟨w.heap.size + 1, 0, none⟩), .int .i64 0, .pointer (some ⟨w.heap.size + 1 + 1, 0, none⟩), args.getD 0 undef, .slice A0 s.length c0, .agg #[.slice A0 s.length c0, .slice none 0 0], .slice A0 s.length c0, .func (.func 117) #[] #[.pointer (some ⟨w.heap.size + 1 + 1 + 1, 0, none⟩)], args.getD 0 undef, undef, undef, undef, undef, undef, undef, undef, undef, undef], defers := [] }) ?assign ?body ?done
  case assign =>
    rintro l p args W K ⟨A, c, rfl, _⟩ hK
    gi_wp2
    exact hK
  case body =>
    rintro l p args W hp ⟨v, hown, hbo, hkp, hbw⟩ ⟨A, c, rfl, hrd⟩
    obtain ⟨Av, cv, rfl⟩ := own_slice hown
    have OW := Aside0.mk hown
    have BO := Aside0.mk hbo
    have KP := Aside0.mk hkp
    have BW := Aside0.mk hbw
    have RX := Aside0.mk hrd
    have HP := Aside0.mk hp
    have BF : Aside0 (W.heap[w.heap.size]? = some (.cells #[.func (.func gf) #[] caps] 62 (0, 0))) := ⟨hkp.same _ _ (by have := S2.out; omega) (by omega) BF2.out rfl⟩
    have SZ : Aside0 (w2.heap.size ≤ W.heap.size) := ⟨hkp.size⟩
    clear hown hbo hkp hbw hrd hp
    have hmix : Try.prog.follows .mixedOrders = true := by kernel_rfl
    gi_wp2
    rw [show (#[.slice A (idxL s (p : Int)).length c] : Array Value).getD 0 undef = .slice A (idxL s (p : Int)).length c from rfl]
    refine start_round (S := fun w' => w'.cell? ⟨w.heap.size + 1 + 1, 1, none⟩ = some (.slice Av p cv) ∧ w'.cell? ⟨w.heap.size, 0, none⟩ = some (.func (.func gf) #[] caps)) (ds := [6, 8]) (N := 9) #[false, false, false, false, false, false, false, false, false] (by rintro ⟨a, w, h⟩; exact h) (by kernel_rfl) hmix rfl rfl ⟨(blk_cell BO.out 1).trans rfl, (blk_cell BF.out 0).trans rfl⟩ (fun hHeld => ?_)
    obtain ⟨W3, hW3⟩ : ∃ W3, W.drew = W3 := ⟨_, rfl⟩
    replace OW : Aside0 (W3.ownsRow w2.heap.size 3 1 (.slice Av p cv) p (nums .i64 (numsTo G p))) := ⟨by rw [← hW3]; exact own_drew OW.out⟩
    replace BO : Aside0 (W3.heap[w.heap.size + 1 + 1]? = some (.cells #[.slice A0 s.length c0, .slice Av p cv] 24 (0, 0))) := ⟨by rw [← hW3]; exact BO.out⟩
    replace BF : Aside0 (W3.heap[w.heap.size]? = some (.cells #[.func (.func gf) #[] caps] 62 (0, 0))) := ⟨by rw [← hW3]; exact BF.out⟩
    have KW : Aside0 (KpB w2.heap.size (w.heap.size + 1 + 1) W W3 ∧ KeepsOthers W W3) := ⟨by rw [← hW3]; exact ⟨⟨Nat.le_refl _, fun k o _ _ h _ => h⟩, KeepsOthers.drew _⟩⟩
    replace BW : Aside0 (Below w.heap.size w W3) := ⟨by rw [← hW3]; exact BW.out.drew⟩
    replace RX : Aside0 (Rd W3 (.slice A (idxL s (p : Int)).length c) (idxL s (p : Int))) := ⟨by rw [← hW3]; exact RX.out.below (Below.refl _ _).drew⟩
    replace SZ : Aside0 (w2.heap.size ≤ W3.heap.size) := ⟨by rw [← hW3]; exact SZ.out⟩
    rw [hW3] at hHeld ⊢
    clear hW3
    refine pure_ (i := 0) (N := some 13) (v := ?_) (a' := ?_) #[true, false, false, false, false, false, false, false, false] rfl rfl (by kernel_rfl) (fun _ _ _ h => h) (Or.inl ⟨by rfl, ?_⟩) ?_ ?_
    rotate_left
    · intro w'
      go_simp
      with_reducible rfl
    rotate_left
    · simp only [Act.put, List.setIfInBounds_toArray, List.set_cons_zero, List.set_cons_succ]
      rfl
    refine pure_ (i := 3) (N := some 16) (v := ?_) (a' := ?_) #[true, false, false, true, false, false, false, false, false] rfl rfl (by kernel_rfl) (fun _ _ _ h => h) (Or.inl ⟨by rfl, ?_⟩) ?_ ?_
    rotate_left
    · intro w'
      go_simp
      with_reducible rfl
    rotate_left
    · simp only [Act.put, List.setIfInBounds_toArray, List.set_cons_zero, List.set_cons_succ]
      rfl
    refine take_ (i := 1) (N := some 14) (v := ?_) (a' := ?_) #[true, true, false, true, false, false, false, false, false] rfl rfl (by kernel_rfl) (fun _ _ _ h => h) (Or.inl ⟨by rfl, ?_⟩) hHeld ?_ ?_
    rotate_left
    · rintro w' ⟨s0, s1⟩
      go_simp
      with_reducible rfl
    rotate_left
    · simp only [Act.put, List.setIfInBounds_toArray, List.set_cons_zero, List.set_cons_succ]
      rfl
    refine take_ (i := 2) (N := some 15) (v := ?_) (a' := ?_) #[true, true, true, true, false, false, false, false, false] rfl rfl (by kernel_rfl) (fun _ _ _ h => h) (Or.inl ⟨by rfl, ?_⟩) hHeld ?_ ?_
    rotate_left
    · rintro w' ⟨s0, s1⟩
      go_simp
      with_reducible rfl
    rotate_left
    · simp only [Act.put, List.setIfInBounds_toArray, List.set_cons_zero, List.set_cons_succ]
      rfl
    refine one_ (i := 4) (N := some 17) #[true, true, true, true, true, false, false, false, false] rfl rfl (by kernel_rfl) (by decide) (fun K hK => ?_)
    refine call_ gf (#[.slice A (idxL s (p : Int)).length c] ++ caps) (by rfl) rfl ?_ ?_
    · have he := HEN.out (#[.slice A (idxL s (p : Int)).length c] ++ caps) W3
      unfold execOp
      simp [resolve, Deferred.ofValue, invoke, Act.eval, he]
    refine (HAT.out p W3 A c HP.out BW.out RX.out).mono ?_
    rintro e W4 ⟨rfl, hb⟩
    refine ⟨_, rfl, ?_⟩
    refine hK.out _ _ ⟨pw_cell_below hb hHeld.1, pw_cell_below hb hHeld.2⟩ (fun hHeld => ?_)
    clear hK K
    refine norm_ (a' := ?_) ?_ ?_
    rotate_left
    · show Act.put _ (some 17) _ = _
      simp only [Act.put, List.setIfInBounds_toArray, List.set_cons_zero, List.set_cons_succ]
      rfl
    replace OW : Aside0 (W4.ownsRow w2.heap.size 3 1 (.slice Av p cv) p (nums .i64 (numsTo G p))) := ⟨own_keep OW.out (fun g _ hg => hb.block g hg)⟩
    replace BO := Aside0.mk (blk_below BO.out hb)
    replace KW : Aside0 (KpB w2.heap.size (w.heap.size + 1 + 1) W W4 ∧ KeepsOthers W W4) := ⟨KW.out.1.trans (KpB.of_below hb), KW.out.2.trans (KeepsOthers.of_grownBy (grown_of_below hb) (fun j o e => by cases e))⟩
    replace SZ : Aside0 (w2.heap.size ≤ W4.heap.size) := ⟨Nat.le_trans SZ.out hb.size⟩
    replace BW := Aside0.mk (below_then BW.out BW.out.size hb)
    clear hb RX BF
    refine one_ (i := 5) (N := some 18) #[true, true, true, true, true, true, false, false, false] rfl rfl (by kernel_rfl) (by decide) (fun K hK => ?_)
    refine value_ (w1 := ?_) (v := ?_) (by rfl) rfl ?_ ?_
    rotate_left 2
    · go_simp
      constructor
      · rfl
      · rfl
    refine hK.out _ _ ⟨(World.cell?_alloc_lt _ _ _ (World.block_lt_of_cell? _ _ hHeld.1)).trans hHeld.1, (World.cell?_alloc_lt _ _ _ (World.block_lt_of_cell? _ _ hHeld.2)).trans hHeld.2⟩ (fun hHeld => ?_)
    clear hK K
    refine norm_ (a' := ?_) ?_ ?_
    rotate_left
    · show Act.put _ (some 18) _ = _
      simp only [Act.put, List.setIfInBounds_toArray, List.set_cons_zero, List.set_cons_succ]
      rfl
    refine last_ (i := 6) (N := some 19) #[true, true, true, true, true, true, true, false, false] rfl rfl (by kernel_rfl) (by decide) (fun K hK => ?_)
    have HO : Kd.R (Kd.int .i64) 3 W4 w2.heap.size (fun _ => True) (.slice Av p cv) (numsTo G p) := toR (by rw [numsTo_len]; exact OW.out) (fun _ _ => trivial)
    have p64 : p < 64 := by have := HP.out; have := sizeS_le s; omega
    refine Kd.R_append_step (Kd.int .i64) (w0 := W4) w2.heap.size (by rfl) (.tmp 14) (.tmp 18) 22 3 (.int .i64 0) 8 rfl Try.underlying22 infoInt rfl (by decide) (by omega) (.slice Av p cv) (numsTo G p) (G p) [.int .i64 (G p)] (fun _ => True) (fun _ => False) rfl rfl rfl (fun _ hk => hk.elim) (fun _ _ => trivial) HO (Below.refl _ _) SZ.out (by rw [numsTo_len]; omega) ?_
    intro v1 w5 ho hb hg hat
    have ho2 := ofR ho
    rw [← numsTo_succ, numsTo_len] at ho2
    obtain ⟨An, cn, rfl⟩ := own_slice ho2
    have ko5 : KeepsOthers W4 w5 := KeepsOthers.of_grownBy hg (fun j o e hj => by
      rcases OW.out.2 with ⟨h, _⟩ | ⟨b, cap, cur, h, h1, h2, _⟩
      · cases h; cases e
      · cases h; cases e; rw [h2] at hj; cases hj; rfl)
    replace BO : Aside0 (w5.heap[w.heap.size + 1 + 1]? = some (.cells #[.slice A0 s.length c0, .slice Av p cv] 24 (0, 0))) := ⟨(hb.block _ (by have := S2.out; omega)).trans BO.out⟩
    have OW5 := Aside0.mk ho2
    replace KW : Aside0 (KpB w2.heap.size (w.heap.size + 1 + 1) W w5 ∧ KeepsOthers W w5) := ⟨KW.out.1.trans ⟨hb.size, fun k o hk _ h _ => (hb.block k hk).trans h⟩, KW.out.2.trans ko5⟩
    replace BW : Aside0 (Below w.heap.size w w5) := ⟨BW.out.trans (hb.mono (by have := S2.out; omega))⟩
    replace SZ : Aside0 (w2.heap.size ≤ w5.heap.size) := ⟨Nat.le_trans SZ.out hb.size⟩
    clear ho hb hg hat ho2 ko5 HO OW hHeld
    refine hK.out _ _ ?_
    clear hK K
    refine norm_ (a' := ?_) ?_ ?_
    rotate_left
    · show Act.put _ (some 19) _ = _
      simp only [Act.put, List.setIfInBounds_toArray, List.set_cons_zero, List.set_cons_succ]
      rfl
    refine pure_ (i := 7) (N := some 20) (v := ?_) (a' := ?_) #[true, true, true, true, true, true, true, true, false] rfl rfl (by kernel_rfl) (fun _ _ _ h => h) (Or.inl ⟨by rfl, ?_⟩) ?_ ?_
    rotate_left
    · intro w'
      go_simp
      with_reducible rfl
    rotate_left
    · simp only [Act.put, List.setIfInBounds_toArray, List.set_cons_zero, List.set_cons_succ]
      rfl
    refine last_ (i := 8) (N := none) #[true, true, true, true, true, true, true, true, true] rfl rfl (by kernel_rfl) (by decide) (fun K hK => ?_)
    have q1 : w5.cell? ⟨w.heap.size + 1 + 1, 1, none⟩ = some (.slice Av p cv) := (blk_cell BO.out 1).trans rfl
    have q2 := blk_frozen BO.out 1
    refine skip_ (w1 := ?_) (by rfl) rfl ?_ ?_
    rotate_left
    · go_simp
      rfl
    refine hK.out _ _ ?_
    clear hK K q1 q2
    refine done_ (by kernel_rfl) ?_
    refine ⟨KW.out.2.trans (KeepsOthers.setCell _ _ _), KW.out.1.trans ⟨by rw [set_size]; exact Nat.le_refl _, fun k o hk hn ho _ => (set_far _ _ _ _ hn).trans ho⟩, .slice An (p + 1) cn, ?_, blk_put (cs := #[.slice A0 s.length c0, .slice Av p cv]) BO.out 1 _ rfl, (KP.out.trans KW.out.1).trans ⟨by rw [set_size]; exact Nat.le_refl _, fun k o hk hn ho _ => (set_far _ _ _ _ hn).trans ho⟩, BW.out.setCell (p := ⟨w.heap.size + 1 + 1, 1, none⟩) (by simp; omega) _⟩
    exact own_keep OW5.out (fun g hg _ => set_far _ _ _ _ (by have := S2.out; show g ≠ w.heap.size + 1 + 1; omega))
  case done =>
    rintro D W hD ⟨v, hown, hbo, hkp, hbw⟩ hK
    obtain ⟨Av, cv, rfl⟩ := own_slice hown
    have OW := Aside0.mk hown
    have BO := Aside0.mk hbo
    have BW := Aside0.mk hbw
    have HK := Aside0.mk hK
    have BR : Aside0 (W.heap[w.heap.size + 1]? = some (.cells #[.slice none 0 0, .slice none 0 0] 24 (0, 0))) := ⟨hkp.same _ _ (by have := S2.out; omega) (by omega) BR2.out rfl⟩
    obtain ⟨N, hN⟩ : ∃ N, sizeS s = N := ⟨_, rfl⟩
    rw [hN] at OW BO
    have NN := Aside0.mk hN
    have q1 : W.cell? ⟨w.heap.size + 1 + 1, 0, none⟩ = some (.slice A0 s.length c0) := (blk_cell BO.out 0).trans rfl
    have q2 : W.cell? ⟨w.heap.size + 1 + 1, 1, none⟩ = some (.slice Av N cv) := (blk_cell BO.out 1).trans rfl
    have q3 : W.cell? ⟨w.heap.size + 1, 0, none⟩ = some (.slice none 0 0) := (blk_cell BR.out 0).trans rfl
    have q4 : W.cell? ⟨w.heap.size + 1, 1, none⟩ = some (.slice none 0 0) := (blk_cell BR.out 1).trans rfl
    have q5 := blk_frozen BR.out 0
    have q6 := blk_frozen BR.out 1
    clear hown hbo hkp hbw hK hN
    gi_wp2
    obtain ⟨Wf, hWf⟩ : ∃ Wf, ((W.setCell ⟨w.heap.size + 1, 0, none⟩ (.slice A0 s.length c0)).setCell ⟨w.heap.size + 1, 1, none⟩ (.slice Av N cv)) = Wf := ⟨_, rfl⟩
    have F1 : Wf.heap[w.heap.size + 1]? = some (.cells #[.slice A0 s.length c0, .slice Av N cv] 24 (0, 0)) := by
      rw [← hWf]; exact set_cells2 BR.out
    have F2 : ∀ k, k ≠ w.heap.size + 1 → Wf.heap[k]? = W.heap[k]? := fun k hk => by rw [← hWf, set_far _ _ _ _ hk, set_far _ _ _ _ hk]
    have F3 : Below w.heap.size w Wf := by
      rw [← hWf]
      exact (BW.out.setCell (p := ⟨w.heap.size + 1, 0, none⟩) (by simp) _).setCell (p := ⟨w.heap.size + 1, 1, none⟩) (by simp) _
    rw [hWf]
    clear hWf
    have s2 := S2.out
    have hD0 : D ≠ w.heap.size + 1 := by omega
    have hK : Wf.heap[D]? = some (.deferred (some [])) := (F2 D hD0).trans HK.out
    have OWf : Wf.ownsRow w2.heap.size 3 1 (.slice Av N cv) N (nums .i64 (numsTo G N)) := own_keep OW.out (fun g hg _ => F2 g (by omega))
    have G1 : ∀ k, k ≠ D → (Wf.putObj D (.deferred none)).heap[k]? = Wf.heap[k]? := fun k hk => World.putObj_heap_other hk
    refine ⟨by simp, .inl ⟨_, _, rfl, run_takeDeferred hK, ?_⟩⟩
    refine ⟨_, results_ct rfl _ _ (w.heap.size + 1) 24 #[.slice A0 s.length c0, .slice Av N cv] (0, 0) _ rfl ((G1 _ (by omega)).trans F1) Try.underlying24 rfl (by kernel_rfl), _, rfl, ?_, ?_⟩
    · rw [NN.out]
      have h := own_ownFrom (β := Unit) 0 w2.heap.size 3 1 (.slice Av N cv) N (fun _ => nums .i64 (numsTo G N)) () Wf (Wf.putObj D (.deferred none)) (some D) OWf (grownBy_putObj' Wf D (.deferred none)) (fun r e => by cases e; exact ⟨Nat.zero_le _, _, hK, rfl⟩)
      refine ⟨h.1, ?_⟩
      rcases h.2 with h2 | ⟨b, cap, cur, h1, h2, h3⟩
      · exact .inl h2
      · exact .inr ⟨b, cap, cur, h1, by omega, h3⟩
    · exact F3.trans ((Below.refl _ _).grown (grownBy_putObj' Wf D (.deferred none)) F3.size (fun k e => by cases e; omega))
end Go.Proofs.Ytpnigmcpifilmaa.P
/- Contract of move.Slice. -/
namespace Go.Proofs.Ytpnigmcpifilmaa.P
open Go.RowKit Go.Shelf Go.Proofs.YtpnigmcpifilmaaW.PrintWords Go.Proofs.YtpnigmcpifilmaaW.PrintLast Go.Proofs.YtpnigmcpifilmaaW.PrintMore
set_option linter.unusedVariables false
set_option linter.unusedSimpArgs false
/-! an index's numbers are each below their sides -/
theorem idx_lt {s : List Int} {p : Int} (hs : shapeOk s = true) {k : Nat} (h : k < s.length) : 0 ≤ rd (idxL s p) k ∧ rd (idxL s p) k < rd s k := by
  obtain ⟨m, hm⟩ : ∃ m, m = s.length - 1 - k := ⟨_, rfl⟩
  have hk : k = s.length - 1 - m := by omega
  have e := idx_at s p m (by omega)
  rw [idxL_length, ← hk] at e
  have e2 := rev_at s m (by omega)
  rw [← hk] at e2
  have sd := side_mem s m (shapeOk_bd hs).2.1 (by omega)
  have e3 : rd (idxL s p) k = (idxL s p).getD k 0 := by simp [rd]
  rw [e3, e, e2]
  exact ⟨Int.emod_nonneg _ (by omega), Int.emod_lt_of_pos _ (by omega)⟩
theorem rd_set (l : List Int) (a k : Nat) (x : Int) (ha : a < l.length) : rd (l.set a x) (k : Nat) = if k = a then x else rd l (k : Nat) := by
  unfold rd
  simp only [Int.toNat_natCast, List.getD_eq_getElem?_getD, List.getElem?_set]
  by_cases e : a = k
  · subst e; simp [ha]
  · rw [if_neg e, if_neg (fun h => e h.symm)]
/-- The index in a tensor that a part's index is of. -/
def shIx (s' : List Int) (a : Nat) (f : Int) (p : Nat) : List Int := (idxL s' (p : Int)).set a (rd (idxL s' (p : Int)) (a : Nat) + f)
theorem shIx_in {s : List Int} {a : Nat} {f n : Int} (hs' : shapeOk (s.set a n) = true) (ha : a < s.length) (hf : 0 ≤ f) (hn : f + n ≤ rd s (a : Nat)) (p : Nat) : inIx s (shIx (s.set a n) a f p) := by
  refine ⟨by simp [shIx, idxL_length], fun k hk => ?_⟩
  unfold shIx
  rw [rd_set _ _ _ _ (by rw [idxL_length, List.length_set]; exact ha)]
  have h := idx_lt (p := (p : Int)) hs' (k := k) (by rw [List.length_set]; exact hk)
  rw [rd_set _ _ _ _ ha] at h
  by_cases e : k = a
  · subst e
    rw [if_pos rfl]
    rw [if_pos rfl] at h
    omega
  · rw [if_neg e]
    rw [if_neg e] at h
    exact h
def partN (s d : List Int) (a : Nat) (f n : Int) (p : Nat) : Int := rd d (plcK s (shIx (s.set a n) a f p) s.length)
def partD (s d : List Int) (a : Nat) (f n : Int) : List Int := numsTo (partN s d a f n) (sizeS (s.set a n))
theorem set_ok {s : List Int} (hs : shapeOk s = true) {a : Nat} {n : Int} (ha : a < s.length) (h1 : 1 ≤ n) (h2 : n ≤ rd s (a : Nat)) : shapeOk (s.set a n) = true := by
  obtain ⟨b1, b2, b3, b4, b5⟩ := shapeOk_bd hs
  have sb := side_bd hs ha
  have e1 : s = s.take a ++ rd s (a : Nat) :: s.drop (a + 1) := by rw [← drop_rd ha, List.take_append_drop]
  have e2 : s.set a n = s.take a ++ n :: s.drop (a + 1) := List.set_eq_take_append_cons_drop.trans (if_pos ha)
  have p1 := (sides_bd _ (sides_take s a b2)).1
  have p2 := (sides_bd _ (sides_drop s (a + 1) b2)).1
  refine shapeOk_of (by rw [List.length_set]; exact b1) ?_ ?_
  · rw [List.all_eq_true] at b2 ⊢
    intro x hx
    rcases List.mem_or_eq_of_mem_set hx with h | h
    · exact b2 x h
    · subst h; simp [sideOk]; omega
  · have q1 : prod s = prod (s.take a) * (rd s (a : Nat) * prod (s.drop (a + 1))) := by conv => lhs; rw [e1, prod_append]; simp only [prod]
    have q2 : prod (s.set a n) = prod (s.take a) * (n * prod (s.drop (a + 1))) := by rw [e2, prod_append]; simp only [prod]
    have q3 : n * prod (s.drop (a + 1)) ≤ rd s (a : Nat) * prod (s.drop (a + 1)) := Int.mul_le_mul_of_nonneg_right h2 (by omega)
    have q4 := Int.mul_le_mul_of_nonneg_left q3 (show 0 ≤ prod (s.take a) by omega)
    omega
set_option maxRecDepth 100000 in
theorem slice1_ok {A0 : Option Addr} {c0 : Nat} {s : List Int} {A1 : Option Addr} {c1 : Nat} {d : List Int} {A2 : Option Addr} {c2 : Nat} {x : List Int} (a : Nat) (m : Int) (bt ba bf : Nat) {w : World} (q1 : w.cell? ⟨bt, 0, none⟩ = some (.slice A0 s.length c0)) (q2 : w.cell? ⟨bt, 1, none⟩ = some (.slice A1 d.length c1)) (q3 : w.cell? ⟨ba, 0, none⟩ = some (.int .i64 (a : Nat))) (q4 : w.cell? ⟨bf, 0, none⟩ = some (.int .i64 m))
    (r0 : Rd w (.slice A0 s.length c0) s) (r1 : Rd w (.slice A1 d.length c1) d) (r2 : Rd w (.slice A2 x.length c2) x)
    (ht : tOk s d = true) (ha : a < x.length) (hx : inIx s (x.set a (rd x (a : Nat) + m))) (hm : isI64 (rd x (a : Nat) + m)) :
    Calls Try.prog 88 #[.slice A2 x.length c2, .pointer (some ⟨bt, 0, none⟩), .pointer (some ⟨ba, 0, none⟩), .pointer (some ⟨bf, 0, none⟩)] w fun e w' => e = .returned (.int .i64 (rd d (plcK s (x.set a (rd x (a : Nat) + m)) s.length))) ∧ Below w.heap.size w w' := by
  have C := Aside0.mk (shifted_ok a m r0 r1 r2 ht ha hx hm)
  clear r0 r1 r2 ht hx hm
  obtain ⟨z, hz⟩ : ∃ z, rd d (plcK s (x.set a (rd x (a : Nat) + m)) s.length) = z := ⟨_, rfl⟩
  rw [hz] at C ⊢
  clear hz
  go_enter Try.func88, Try.ntmps88
  go_wp2_with fail
  refine C.out.mono ?_
  rintro e w2 ⟨rfl, hb⟩
  have B := Aside0.mk hb
  clear hb q1 q2 q3 q4
  go_wp2_with fail
  go_ret
  exact ⟨rfl, B.out⟩
set_option maxHeartbeats 1000000 in
set_option maxRecDepth 100000 in
theorem slice_ok {A0 : Option Addr} {c0 : Nat} {s : List Int} {A1 : Option Addr} {c1 : Nat} {d : List Int} (a : Nat) (f t : Int) {w : World} (r0 : Rd w (.slice A0 s.length c0) s) (r1 : Rd w (.slice A1 d.length c1) d)
    (ht : tOk s d = true) (ha : a < s.length) (h0 : 0 ≤ f) (h1 : f < t) (h2 : t ≤ rd s (a : Nat)) :
    Calls Try.prog 42 #[.agg #[.slice A0 s.length c0, .slice A1 d.length c1], .int .i64 (a : Nat), .int .i64 f, .int .i64 t] w (TPost w ((s.set a (t - f), partD s d a f (t - f)), 0)) := by
  have R0 := Aside0.mk r0
  have R1 := Aside0.mk r1
  have HT := Aside0.mk ht
  have hs := ((tOk_iff _ _).1 ht).1
  have sb := side_bd hs ha
  have l3 := (shapeOk_bd hs).1
  have hs' := set_ok hs ha (n := t - f) (by omega) (by omega)
  have HS' := Aside0.mk hs'
  obtain ⟨w1, hw1⟩ : ∃ w1, ((((w.alloc (.cells #[.slice A0 s.length c0, .slice A1 d.length c1] 24)).alloc (.cells #[.int .i64 (a : Nat)] 3)).alloc (.cells #[.int .i64 f] 3)).alloc (.cells #[.slice none 0 0, .slice none 0 0] 24)) = w1 := ⟨_, rfl⟩
  have S1 : Aside0 (w1.heap.size = w.heap.size + 1 + 1 + 1 + 1) := ⟨by rw [← hw1]; simp only [World.size_alloc]⟩
  have B1 : Aside0 (Below w.heap.size w w1) := ⟨by rw [← hw1]; exact below_alloc (below_alloc (below_alloc (below_alloc (Below.refl _ _) _) _) _) _⟩
  have BT1 : Aside0 (w1.heap[w.heap.size]? = some (.cells #[.slice A0 s.length c0, .slice A1 d.length c1] 24 (0, 0))) := ⟨by rw [← hw1]; exact blk_alloc (blk_alloc (blk_alloc (blk_new _ _) _) _) _⟩
  have BA1 : Aside0 (w1.heap[w.heap.size + 1]? = some (.cells #[.int .i64 (a : Nat)] 3 (0, 0))) := ⟨by rw [← hw1]; refine blk_alloc (blk_alloc ?_ _) _; have := blk_new (w.alloc (.cells #[.slice A0 s.length c0, .slice A1 d.length c1] 24)) (.cells #[.int .i64 (a : Nat)] 3); rwa [World.size_alloc] at this⟩
  have BF1 : Aside0 (w1.heap[w.heap.size + 1 + 1]? = some (.cells #[.int .i64 f] 3 (0, 0))) := ⟨by rw [← hw1]; refine blk_alloc ?_ _; have := blk_new ((w.alloc (.cells #[.slice A0 s.length c0, .slice A1 d.length c1] 24)).alloc (.cells #[.int .i64 (a : Nat)] 3)) (.cells #[.int .i64 f] 3); rwa [World.size_alloc, World.size_alloc] at this⟩
  have BR1 : Aside0 (w1.heap[w.heap.size + 1 + 1 + 1]? = some (.cells #[.slice none 0 0, .slice none 0 0] 24 (0, 0))) := ⟨by rw [← hw1]; have := blk_new (((w.alloc (.cells #[.slice A0 s.length c0, .slice A1 d.length c1] 24)).alloc (.cells #[.int .i64 (a : Nat)] 3)).alloc (.cells #[.int .i64 f] 3)) (.cells #[.slice none 0 0, .slice none 0 0] 24); rwa [World.size_alloc, World.size_alloc, World.size_alloc] at this⟩
  have W1 := Aside0.mk hw1
  clear hw1 r0 r1 ht hs hs'
  go_enter Try.func42, Try.ntmps42
  go_wp2_with fail
  rw [W1.out]
  clear W1
  refine (tcheck_any A0 c0 s A1 c1 d w1 (R0.out.below B1.out).c.1).mono ?_
  rw [HT.out]
  rintro e w2 ⟨rfl, hb⟩
  have B2 := Aside0.mk (below_then B1.out B1.out.size hb)
  have BT2 := Aside0.mk (blk_below BT1.out hb)
  have BA2 := Aside0.mk (blk_below BA1.out hb)
  have BF2 := Aside0.mk (blk_below BF1.out hb)
  have BR2 := Aside0.mk (blk_below BR1.out hb)
  have S2 : Aside0 (w1.heap.size ≤ w2.heap.size) := ⟨hb.size⟩
  have q1 : w2.cell? ⟨w.heap.size, 0, none⟩ = some (.slice A0 s.length c0) := (blk_cell BT2.out 0).trans rfl
  have q2 : w2.cell? ⟨w.heap.size, 1, none⟩ = some (.slice A1 d.length c1) := (blk_cell BT2.out 1).trans rfl
  have q3 : w2.cell? ⟨w.heap.size + 1, 0, none⟩ = some (.int .i64 (a : Nat)) := (blk_cell BA2.out 0).trans rfl
  have q4 : w2.cell? ⟨w.heap.size + 1 + 1, 0, none⟩ = some (.int .i64 f) := (blk_cell BF2.out 0).trans rfl
  clear hb
  obtain ⟨ad, rfl, hx0⟩ := Kd.at_int (R0.out.below B2.out).c.1 (a : Int) (by omega) (by omega)
  simp only [Int.toNat_natCast] at hx0
  obtain ⟨y, hy⟩ : ∃ y, rd s (a : Nat) = y := ⟨_, rfl⟩
  rw [hy] at hx0 h2 sb
  have HY := Aside0.mk hy
  have d1 : decide ((a : Int) < 0) = false := by simp
  have d2 : decide ((s.length : Int) ≤ (a : Int)) = false := by simp; omega
  have d3 : decide (f < 0) = false := by simp; omega
  have d4 : decide (t ≤ f) = false := by simp; omega
  have d5 : decide (y < t) = false := by simp; omega
  have d6 : decide (s.length ≤ a) = false := by simp; omega
  have wm : IntKind.i64.wrap (t - f) = t - f := wrap_in _ ⟨by omega, by omega⟩
  have HF := Aside0.mk (And.intro h0 (And.intro h1 h2))
  have SB := Aside0.mk sb
  clear hy h0 h1 h2 sb
  go_wp2_with fail
  refine (sided_ok a (t - f) (R0.out.below B2.out) ha (by omega)).mono ?_
  rintro e w3 ⟨v, rfl, hr, hb⟩
  have ho := ofR hr
  have hN := RdN.of_R hr
  obtain ⟨As, cs, rfl⟩ := own_slice ho
  obtain ⟨g, rfl, hg1, hg2⟩ := own_some ho (by rw [List.length_set]; omega)
  have B3 := Aside0.mk (below_then B2.out B2.out.size hb)
  have BT3 := Aside0.mk (blk_below BT2.out hb)
  have BA3 := Aside0.mk (blk_below BA2.out hb)
  have BF3 := Aside0.mk (blk_below BF2.out hb)
  have BR3 := Aside0.mk (blk_below BR2.out hb)
  have S3 : Aside0 (w2.heap.size ≤ w3.heap.size) := ⟨hb.size⟩
  have HG := Aside0.mk (And.intro hg1 hg2)
  have HN := Aside0.mk hN
  clear hb hr ho hN hg1 hg2 q1 q2 q3 q4 hx0 d1 d2 d3 d4 d5 d6 wm
  obtain ⟨s', hs'⟩ : ∃ s', s.set a (t - f) = s' := ⟨_, rfl⟩
  rw [hs'] at HN HS' ⊢
  have HSS := Aside0.mk hs'
  have HL := Aside0.mk (show s'.length = s.length by rw [← hs', List.length_set])
  clear hs'
  go_wp2_with fail
  refine (made_ok 88 _ (partN s d a f (t - f)) (some ⟨g, 0, none⟩) cs s' w3 HS'.out HN.out.rd (fun ad e _ => by cases e; exact HG.out.2) (enters_of Try.func88 (by kernel_rfl) rfl) (fun p W A c hp hW hrd => ?_)).mono ?_
  · have B := below_then B3.out B3.out.size hW
    have hl' := HL.out
    have hl : (idxL s' (p : Int)).length = s.length := by rw [idxL_length, HL.out]
    have hin := shIx_in (f := f) (n := t - f) (by rw [HSS.out]; exact HS'.out) ha HF.out.1 (by rw [HY.out]; have := HF.out; omega) p
    have hbd := (idx_bd s' (p : Int) HS'.out (by omega) a (by omega))
    have hf := HF.out
    have hy := SB.out
    have h := slice1_ok (x := idxL s' (p : Int)) a f w.heap.size (w.heap.size + 1) (w.heap.size + 1 + 1) ((blk_cell (blk_below BT3.out hW) 0).trans rfl) ((blk_cell (blk_below BT3.out hW) 1).trans rfl) ((blk_cell (blk_below BA3.out hW) 0).trans rfl) ((blk_cell (blk_below BF3.out hW) 0).trans rfl)
      (R0.out.below B) (R1.out.below B) hrd HT.out (by omega) (by unfold shIx at hin; rw [HSS.out] at hin; exact hin) (by unfold isI64; omega)
    refine h.mono ?_
    rintro e w' ⟨rfl, hb⟩
    refine ⟨?_, hb⟩
    unfold partN shIx
    rw [HSS.out]
  rintro e w4 ⟨v1, rfl, hown, hb⟩
  obtain ⟨Ad, cd, rfl⟩ := own_slice hown
  have B4 := Aside0.mk (below_then B3.out B3.out.size hb)
  have BR4 := Aside0.mk (blk_below BR3.out hb)
  have S4 : Aside0 (w3.heap.size ≤ w4.heap.size) := ⟨hb.size⟩
  have HN4 : Aside0 (RdN w2.heap.size w4 (.slice (some ⟨g, 0, none⟩) s'.length cs) s') := ⟨HN.out.keep (Kp.below (Kp.refl [] _) hb) (fun g h => by cases h)⟩
  have ON4 := Aside0.mk (RdN.of_ownsRow (l := numsTo (partN s d a f (t - f)) (sizeS s')) (by rw [numsTo_len]; exact hown))
  have q3 : w4.cell? ⟨w.heap.size + 1 + 1 + 1, 0, none⟩ = some (.slice none 0 0) := (blk_cell BR4.out 0).trans rfl
  have q4 : w4.cell? ⟨w.heap.size + 1 + 1 + 1, 1, none⟩ = some (.slice none 0 0) := (blk_cell BR4.out 1).trans rfl
  have q5 := blk_frozen BR4.out 0
  have q6 := blk_frozen BR4.out 1
  clear hb hown
  go_wp2_with fail
  exact end_val2 rfl _ w w4 _ ((s.set a (t - f), partD s d a f (t - f)), 0) _ _ rfl rfl B4.out (by omega) BR4.out w2.heap.size w3.heap.size (by have := S1.out; have := S2.out; omega) (by have := S1.out; have := S2.out; have := S3.out; omega) (by show RdN w2.heap.size w4 _ (s.set a (t - f)); rw [HSS.out]; exact HN4.out) (by show RdN w3.heap.size w4 _ (partD s d a f (t - f)); unfold partD; rw [HSS.out]; exact ON4.out)
end Go.Proofs.Ytpnigmcpifilmaa.P
