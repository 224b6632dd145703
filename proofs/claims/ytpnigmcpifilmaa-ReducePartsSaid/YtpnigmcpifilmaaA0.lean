/- Contracts of shape.Check, slices.Clone, shape.side and shape.Join. -/
import Derived.Test.YtpnigmcpifilmaaProg
import Derived.WalkKit
import Derived.Deep.LoopGhost
import Derived.Deep.QuietTactic
import Derived.BigQuiet
import Derived.BigRegion
import Derived.RegionTactic
import Derived.ScopeJumps
import Derived.WalkSpells
import Derived.Laws.IdiomCopy
import Derived.Laws.CopyOwn
import Derived.Laws.Externs
import Derived.Shelf.Spec.BitsCarry
import Derived.Test.YtpnigmcpifilmaaWMore
namespace Go.Proofs.Ytpnigmcpifilmaa.P
open Go.RowKit Go.Proofs.YtpnigmcpifilmaaW.PrintWords Go.Proofs.YtpnigmcpifilmaaW.PrintLast Go.Proofs.YtpnigmcpifilmaaW.PrintMore
set_option linter.unusedVariables false
set_option linter.unusedSimpArgs false

theorem infoInt : (Try.prog.info? 3).map (fun i => (i.zero, i.size, i.bytes)) = some (some (.int .i64 0), 1, 8) := by kernel_rfl
theorem sizeInt : (Try.prog.info? 3).map (·.size) = some 1 := by kernel_rfl
theorem ofC {w : World} {A : Option Addr} {n : Nat} {xs : List Int} (h : Kd.C (Kd.int .i64) w A n xs) : ReadsInt w .i64 A n xs :=
  Kd.reads_of_C (enc := Value.int .i64) (d := (0 : Int)) (h1 := fun _ => rfl) h
theorem toC {w : World} {A : Option Addr} {n : Nat} {xs : List Int} (h : ReadsInt w .i64 A n xs) : Kd.C (Kd.int .i64) w A n xs :=
  Kd.C_of_reads (enc := Value.int .i64) (d := (0 : Int)) (h1 := fun _ => rfl) h
theorem toR {w : World} {base e : Nat} {ok : Nat → Prop} {v : Value} {xs : List Int} (h : w.ownsRow base e 1 v xs.length (nums .i64 xs)) (hok : ∀ k, v.ownBlock = some k → ok k) : Kd.R (Kd.int .i64) e w base ok v xs :=
  Kd.R_of_own (enc := Value.int .i64) (h1 := fun _ => rfl) h hok
theorem ofR {w : World} {base e : Nat} {ok : Nat → Prop} {v : Value} {xs : List Int} (h : Kd.R (Kd.int .i64) e w base ok v xs) : w.ownsRow base e 1 v xs.length (nums .i64 xs) :=
  Kd.own_of_R (enc := Value.int .i64) (h1 := fun _ => rfl) h
theorem ret_bool {a b : Bool} (h : a = b) : Ending.returned (.bool a) = .returned (.bool b) := by rw [h]
theorem ret_val {a b : Value} (h : a = b) : Ending.returned a = .returned b := by rw [h]
theorem wrap_in (n : Int) (h : -9223372036854775808 ≤ n ∧ n ≤ 9223372036854775807) : IntKind.i64.wrap n = n := IntWalk.i64_in n h

/-! shapes -/
def prod : List Int → Int
  | [] => 1
  | n :: s => n * prod s
def sideOk (n : Int) : Bool := decide (1 ≤ n) && decide (n ≤ 16)
def shapeOk (s : List Int) : Bool := decide (s.length ≤ 3) && s.all sideOk && decide (prod s ≤ 64)
theorem prod_append (s t : List Int) : prod (s ++ t) = prod s * prod t := by
  induction s with
  | nil => simp [prod]
  | cons n s ih => simp [prod, ih, Int.mul_assoc]
theorem take_rd (l : List Int) (k : Nat) (h : k < l.length) : l.take (k + 1) = l.take k ++ [rd l (k : Int)] := by
  rw [List.take_succ_eq_append_getElem h]; simp [rd, h]
theorem sides_bd (s : List Int) (h : s.all sideOk = true) : 1 ≤ prod s ∧ prod s ≤ 16 ^ s.length := by
  induction s with
  | nil => simp [prod]
  | cons n s ih =>
    simp only [List.all_cons, Bool.and_eq_true, sideOk, decide_eq_true_eq] at h
    obtain ⟨⟨h1, h2⟩, h3⟩ := h
    obtain ⟨p1, p2⟩ := ih (by simpa [sideOk] using h3)
    simp only [prod, List.length_cons, Int.pow_succ]
    constructor
    · have := Int.mul_le_mul h1 p1 (by omega) (by omega); omega
    · have := Int.mul_le_mul h2 p2 (by omega) (by omega)
      rw [Int.mul_comm (16 ^ _)]; exact this
theorem sides_take (l : List Int) (k : Nat) (h : l.all sideOk = true) : (l.take k).all sideOk = true := by
  simp only [List.all_eq_true] at *
  exact fun x hx => h x (List.mem_of_mem_take hx)

def shape_Check.f (l0 : List Int) : Option (Bool) := some (shapeOk l0)
set_option maxRecDepth 100000 in
theorem check_any (A0 : Option Addr) (c0 : Nat) (l0 : List Int) (w : World) (hr0 : Kd.C (Kd.int .i64) w A0 l0.length l0) :
    Calls Try.prog 43 #[.slice A0 l0.length c0] w fun e w' => e = .returned (.bool (shapeOk l0)) ∧ w = w' := by
  have HR := Aside0.mk hr0
  clear hr0
  by_cases h3 : 3 < l0.length
  · have h3' : decide ((3:Int) < (l0.length : Int)) = true := by simp; omega
    have H : Aside0 (shapeOk l0 = false) := ⟨by simp [shapeOk]; omega⟩
    go_enter Try.func43, Try.ntmps43
    go_wp2
    go_step3
    go_wp2
    rw [Exit.noGoto_ret]
    go_ret
    exact ⟨ret_bool H.out.symm, rfl⟩
  · have h3' : decide ((3:Int) < (l0.length : Int)) = false := by simp; omega
    have h3 := Aside0.mk h3
    go_enter Try.func43, Try.ntmps43
    go_wp2
    go_step3
    go_wp2
    go_step3
    go_wp2
    go_loopg [3, 5, 11] (l0.length) (fun g n _ i wr => ∃ k : Nat, wr = w ∧ i = .int .i64 k ∧ n = .int .i64 (prod (l0.take k)) ∧ Aside0 ((l0.take k).all sideOk = true ∧ k ≤ l0.length ∧ g = l0.length - k))
    case atStart => exact ⟨0, rfl, rfl, rfl, ⟨by simp, by omega, by omega⟩⟩
    case round =>
      obtain ⟨k, rfl, rfl, rfl, HA⟩ := hrel
      obtain ⟨ha, hk, hg⟩ := HA.out
      clear HA
      by_cases hlt : k < l0.length
      · have c1 : decide ((k : Int) < (l0.length : Int)) = true := by simpa using hlt
        have c2 : decide (k < l0.length) = true := by simpa using hlt
        obtain ⟨ad, rfl, hx⟩ := Kd.at_int HR.out k (by omega) (by omega)
        simp at hx
        have ts := take_rd l0 k hlt
        obtain ⟨x, hxe⟩ : ∃ x, rd l0 k = x := ⟨_, rfl⟩
        rw [hxe] at ts hx
        have b1 := sides_bd _ ha
        have hlen : (l0.take k).length = k := by simp; omega
        by_cases hs : sideOk x = true
        · have hs' := hs
          simp only [sideOk, Bool.and_eq_true, decide_eq_true_eq] at hs'
          have d1 : decide (x < 1) = false := by simp; omega
          have d2 : decide ((16:Int) < x) = false := by simp; omega
          have hp : prod (l0.take (k + 1)) = prod (l0.take k) * x := by rw [ts, prod_append]; simp [prod]
          have hbd : prod (l0.take (k + 1)) ≤ 65536 ∧ 1 ≤ prod (l0.take (k+1)) := by
            have hb := sides_bd (l0.take (k + 1)) (by rw [ts]; simp [ha, hs])
            have h4 : k ≤ 2 := by have := h3.out; omega
            rw [show (l0.take (k+1)).length = k + 1 by simp; omega] at hb
            have : (16:Int) ^ (k + 1) ≤ 65536 := by
              have : k = 0 ∨ k = 1 ∨ k = 2 := by omega
              rcases this with rfl | rfl | rfl <;> decide
            omega
          have hw : IntKind.i64.wrap (prod (l0.take k) * x) = prod (l0.take (k + 1)) := by
            rw [← hp]; exact IntWalk.i64_in _ ⟨by omega, by omega⟩
          have hwi : IntKind.i64.wrap ((k : Int) + 1) = ((k + 1 : Nat) : Int) := by rw [IntWalk.i64_in _ ⟨by omega, by have := h3.out; omega⟩]; omega
          have T := Aside0.mk (And.intro ts (And.intro hs (And.intro ha hbd)))
          have G := Aside0.mk (And.intro hg hlt)
          clear ts hxe hs hs' hp hbd ha b1 hlen hk hg
          go_wp2
          go_roundg (l0.length - (k + 1))
          case measure => have := G.out; omega
          case rel => exact ⟨k + 1, rfl, by first | rfl | simp, by first | rfl | (simp; done), ⟨by rw [T.out.1]; simp [T.out.2.1, T.out.2.2.1], by have := G.out; omega, rfl⟩⟩
        · have hb : shapeOk l0 = false := by
            have : l0.all sideOk = false := by
              rw [Bool.eq_false_iff]; intro hall
              have := sides_take l0 (k + 1) hall
              rw [ts] at this; simp [hs] at this
            simp [shapeOk, this]
          have T := Aside0.mk hb
          have hs' : x < 1 ∨ 16 < x := by
            simp only [sideOk, Bool.and_eq_true, decide_eq_true_eq] at hs; omega
          clear hb ts hxe hs ha b1 hlen hk hg
          by_cases hx1 : x < 1
          · have d1 : decide (x < 1) = true := by simpa using hx1
            clear hs' hx1
            go_wp2
            rw [Exit.noGoto_ret]
            go_ret
            exact ⟨ret_bool T.out.symm, rfl⟩
          · have d1 : decide (x < 1) = false := by simpa using hx1
            have d2 : decide ((16:Int) < x) = true := by simp; omega
            clear hs' hx1
            go_wp2
            rw [Exit.noGoto_ret]
            go_ret
            exact ⟨ret_bool T.out.symm, rfl⟩
      · have c1 : decide ((k : Int) < (l0.length : Int)) = false := by simpa using hlt
        have c2 : decide (k < l0.length) = false := by simpa using hlt
        obtain rfl : k = l0.length := by omega
        rw [List.take_length] at *
        have hb := (sides_bd _ ha).1
        have d1 : decide (0 < prod l0) = true := by simp; omega
        have T : Aside0 (shapeOk l0 = decide (prod l0 ≤ 64)) := ⟨by simp only [shapeOk, ha, Bool.and_true]; rw [decide_eq_true (by have := h3.out; omega)]; simp⟩
        clear hb ha hk hg hlt
        go_wp2
        rw [Exit.noGoto_ret]
        go_ret
        exact ⟨ret_bool T.out.symm, rfl⟩

theorem shape_Check.calls (A0 : Option Addr) (c0 : Nat) (l0 : List Int) (r : Bool) (w : World) (hr0 : Kd.C (Kd.int .i64) w A0 l0.length l0) (hc0 : l0.length ≤ c0) (h : shape_Check.f l0 = some r) :
    Calls Try.prog 43 #[.slice A0 l0.length c0] w fun e w' => e = .returned (.bool r) ∧ Drawn0 w w' := by
  obtain rfl := Option.some.inj h
  exact (check_any A0 c0 l0 w hr0).mono fun e w' hh => ⟨hh.1, by rw [← hh.2]; exact Drawn0.refl _⟩

/-! slices.Clone -/
def slices_Clone_int_int.f (l0 : List Int) : Option (List Int) := if l0.length < 17592186044416 then some l0 else none
set_option maxRecDepth 100000 in
theorem slices_Clone_int_int.calls (A0 : Option Addr) (c0 : Nat) (l0 : List Int) (r : List Int) (w : World) (hr0 : Kd.C (Kd.int .i64) w A0 l0.length l0) (hc0 : l0.length ≤ c0) (h : slices_Clone_int_int.f l0 = some r) :
    Calls Try.prog 48 #[.slice A0 l0.length c0] w fun e w' => ∃ v0_ : Value, e = .returned (v0_) ∧ Kd.R (Kd.int .i64) 3 w' w.heap.size (fun _ => True) v0_ r ∧ Below w.heap.size w w' := by
  have HR := Aside0.mk (ofC hr0)
  unfold slices_Clone_int_int.f at h
  split at h
  case isFalse => cases h
  rename_i hl
  obtain rfl := Option.some.inj h
  have hl := Aside0.mk hl
  clear hr0 h
  have he := fun (W : World) => Lib.run_eql_slice_nil (P := Try.prog) W 22 3 A0 l0.length c0 0 0 Try.underlying22
  cases A0 with
  | none =>
    have h0 : Aside0 (l0 = []) := ⟨by
      rcases Nat.eq_zero_or_pos l0.length with h | h
      · exact List.eq_nil_of_length_eq_zero h
      · obtain ⟨ad, h, _⟩ := HR.out.2.2 h; cases h⟩
    go_enter Try.func48, Try.ntmps48
    go_wp2
    go_ret
    refine ⟨_, rfl, ?_, Below.refl _ _⟩
    rw [h0.out]
    exact toR (own_nil _ _ _ _) (fun _ _ => trivial)
  | some ad =>
    go_enter Try.func48, Try.ntmps48
    have ho : Aside0 ((w.alloc (.cells #[] 3)).ownsRow w.heap.size 3 1 (.slice (some ⟨w.heap.size, 0, none⟩) 0 0) ([] : List Int).length (nums .i64 [])) :=
      ⟨own_lit w w.heap.size 3 .i64 [] (Nat.le_refl _) (by simp)⟩
    have hb : Aside0 (Below w.heap.size w (w.alloc (.cells #[] 3))) := ⟨below_alloc (Below.refl _ _) _⟩
    have hr : Aside0 (ReadsInt (w.alloc (.cells #[] 3)) .i64 (some ad) l0.length l0) := ⟨HR.out.below hb.out⟩
    go_wp2_with (at_builtin; refine print_append_row (w0 := w) w.heap.size rfl _ _ 22 3 .i64 8 rfl Try.underlying22 infoInt (by decide) _ [] l0 (some ad) l0.length c0 rfl rfl ho.out hr.out hb.out ?_ ?_ ?_)
    · simp
    · have := hl.out; simp; omega
    · intro v1 w1 h1 h2 _ _
      have H := Aside0.mk (And.intro h1 h2)
      clear h1 h2
      go_wp2
      go_ret
      exact ⟨v1, rfl, toR (by simpa using H.out.1) (fun _ _ => trivial), H.out.2⟩

/-! shape.Join -/
theorem mx_max (x y : Int) : (if x < y then y else x) = max x y := by
  rw [Int.max_def]; split <;> split <;> omega
theorem mn_min (x y : Int) : (if y < x then y else x) = min x y := by
  rw [Int.min_def]; split <;> split <;> omega
theorem max_mx (ats : Array TypeId) (ty : TypeId) (k k' : IntKind) (x y : Int) : Builtin.max_ ats ty #[.int k x, .int k' y] = pure (.int k (max x y)) := by rw [max_two, max2_int, mx_max]; rfl
theorem min_mn (ats : Array TypeId) (ty : TypeId) (k k' : IntKind) (x y : Int) : Builtin.min_ ats ty #[.int k x, .int k' y] = pure (.int k (min x y)) := by rw [min_two, min2_int, mn_min]; rfl
attribute [local go_sem] max_mx min_mn
/-- a side, from the last one on; 1 beyond -/
def sideF (s : List Int) (i : Nat) : Int := if i < s.length then s.getD (s.length - 1 - i) 1 else 1
theorem side_any (A0 : Option Addr) (c0 : Nat) (l0 : List Int) (i : Nat) (w : World) (hr0 : Kd.C (Kd.int .i64) w A0 l0.length l0) (hl : l0.length ≤ 1000) (hi : i ≤ 1000) :
    Calls Try.prog 57 #[.slice A0 l0.length c0, .int .i64 i] w fun e w' => e = .returned (.int .i64 (sideF l0 i)) ∧ w = w' := by
  by_cases h : i < l0.length
  · have d1 : decide ((l0.length : Int) ≤ (i : Int)) = false := by simpa using h
    have d2 : decide (l0.length ≤ i) = false := by simpa using h
    obtain ⟨ad, rfl, hx⟩ := Kd.at_int hr0 ((l0.length : Int) - 1 - i) (by omega) (by omega)
    have e1 : ((l0.length : Int) - 1 - i).toNat = l0.length - 1 - i := by omega
    have hv : rd l0 ((l0.length : Int) - 1 - i) = sideF l0 i := by
      unfold rd sideF; rw [if_pos h, e1]
      simp [List.getD_eq_getElem?_getD, List.getElem?_eq_getElem (show l0.length - 1 - i < l0.length by omega)]
    rw [hv, e1] at hx
    have w1 : IntKind.i64.wrap ((l0.length : Int) - 1) = ((l0.length - 1 : Nat) : Int) := by rw [wrap_in _ ⟨by omega, by omega⟩]; omega
    have w2 : IntKind.i64.wrap (((l0.length - 1 : Nat) : Int) - (i : Int)) = ((l0.length - 1 - i : Nat) : Int) := by rw [wrap_in _ ⟨by omega, by omega⟩]; omega
    have b1 : l0.length - 1 - i < l0.length := by omega
    clear hr0 hv e1 hl hi
    go_enter Try.func57, Try.ntmps57
    go_wp2
    go_ret
    exact ⟨rfl, rfl⟩
  · have d1 : decide ((l0.length : Int) ≤ (i : Int)) = true := by simp; omega
    have d2 : decide (l0.length ≤ i) = true := by simp; omega
    have hv : Aside0 (sideF l0 i = 1) := ⟨by unfold sideF; rw [if_neg h]⟩
    clear hr0
    go_enter Try.func57, Try.ntmps57
    go_wp2
    go_ret
    exact ⟨ret_val (by rw [hv.out]; rfl), rfl⟩

def joinN (a b : List Int) : Nat := max a.length b.length
def joinAt (a b : List Int) (i : Nat) : Int := max (sideF a i) (sideF b i)
def joinL (a b : List Int) : List Int := (List.range (joinN a b)).map fun j => joinAt a b (joinN a b - 1 - j)
def fitB (x y : Int) : Bool := decide (x = y) || decide (x = 1) || decide (y = 1)
def joinOk (a b : List Int) : Bool := shapeOk a && shapeOk b && (List.range (joinN a b)).all (fun i => fitB (sideF a i) (sideF b i)) && shapeOk (joinL a b)
def shape_Join.f (l0 : List Int) (l1 : List Int) : Option (List Int × Int) := some (if joinOk l0 l1 then (joinL l0 l1, 0) else ([], 20))
theorem joinL_length (a b : List Int) : (joinL a b).length = joinN a b := by simp [joinL]
theorem join_step (L : List Int) (k : Nat) (x : Int) (hk : k < L.length) (hx : L.getD (L.length - 1 - k) 0 = x) :
    (List.replicate (L.length - k) 0 ++ L.drop (L.length - k)).set (L.length - 1 - k) x = List.replicate (L.length - (k + 1)) 0 ++ L.drop (L.length - (k + 1)) := by
  subst hx
  apply List.ext_getElem?
  intro j
  simp only [List.getElem?_set, List.getElem?_append, List.length_replicate, List.getElem?_replicate, List.getElem?_drop, List.length_append, List.length_drop, List.getD_eq_getElem?_getD]
  by_cases h1 : L.length - 1 - k = j
  · subst h1
    rw [if_pos rfl, if_pos (by omega), if_neg (by omega)]
    rw [show L.length - (k + 1) + (L.length - 1 - k - (L.length - (k + 1))) = L.length - 1 - k by omega]
    simp [List.getElem?_eq_getElem (show L.length - 1 - k < L.length by omega)]
  · rw [if_neg h1]
    by_cases h2 : j < L.length - k
    · rw [if_pos h2, if_pos h2, if_pos (by omega), if_pos (by omega)]
    · rw [if_neg h2, if_neg (by omega)]
      congr 1; omega
theorem shapeOk_len {s : List Int} (h : shapeOk s = true) : s.length ≤ 3 := by
  simp only [shapeOk, Bool.and_eq_true, decide_eq_true_eq] at h; exact h.1.1
theorem join_at (a b : List Int) (k : Nat) (h : k < joinN a b) : (joinL a b).getD ((joinL a b).length - 1 - k) 0 = joinAt a b k := by
  rw [joinL_length, List.getD_eq_getElem?_getD]
  simp only [joinL, List.getElem?_map]
  rw [List.getElem?_range (by omega)]
  simp only [Option.map_some, Option.getD_some]
  rw [show joinN a b - 1 - (joinN a b - 1 - k) = k by omega]
set_option maxRecDepth 100000 in
theorem shape_Join.calls (A0 : Option Addr) (c0 : Nat) (l0 : List Int) (A1 : Option Addr) (c1 : Nat) (l1 : List Int) (r1 : List Int) (r2 : Int) (w : World) (hr0 : Kd.C (Kd.int .i64) w A0 l0.length l0) (hc0 : l0.length ≤ c0) (hr1 : Kd.C (Kd.int .i64) w A1 l1.length l1) (hc1 : l1.length ≤ c1) (h : shape_Join.f l0 l1 = some (r1, r2)) :
    Calls Try.prog 23 #[.slice A0 l0.length c0, .slice A1 l1.length c1] w fun e w' => ∃ v0_ : Value, e = .returned (.tuple #[v0_, .int .i64 r2]) ∧ Kd.R (Kd.int .i64) 3 w' w.heap.size (fun _ => True) v0_ r1 ∧ Below w.heap.size w w' := by
  have HR0 := Aside0.mk hr0
  have HR1 := Aside0.mk hr1
  have HC0 := Aside0.mk hc0
  have HC1 := Aside0.mk hc1
  replace h := Option.some.inj h
  have H := Aside0.mk h
  clear h hr0 hr1 hc0 hc1
  by_cases ok : shapeOk l0 = true ∧ shapeOk l1 = true
  · obtain ⟨k0, k1⟩ := ok
    have L0 := shapeOk_len k0
    have L1 := shapeOk_len k1
    have hmk := print_make (P := Try.prog) 22 3 .i64 8 Try.underlying22 infoInt (by decide) (joinN l0 l1) (by unfold joinN; omega)
    have hn : max (l0.length : Int) (l1.length : Int) = ((joinN l0 l1 : Nat) : Int) := by
      unfold joinN; omega
    obtain ⟨n, hnn⟩ : ∃ n, joinN l0 l1 = n := ⟨_, rfl⟩
    have hn3 : n ≤ 3 := by rw [← hnn]; unfold joinN; omega
    rw [hnn] at hmk hn
    have NN := Aside0.mk hnn
    clear hnn
    go_enter Try.func23, Try.ntmps23
    go_wp2_with fail
    refine (check_any _ _ l0 _ HR0.out).mono ?_
    rw [k0]
    rintro e w' ⟨rfl, rfl⟩
    go_wp2_with fail
    refine (check_any _ _ l1 _ HR1.out).mono ?_
    rw [k1]
    rintro e w' ⟨rfl, rfl⟩
    go_wp2_with fail
    have ho : Aside0 ((w.alloc (.cells (madeCells #[.int .i64 0] n) 3)).ownsRow w.heap.size 3 1 (.slice (some ⟨w.heap.size, 0, none⟩) n n) n (nums .i64 (List.replicate n 0))) :=
      ⟨own_made w w.heap.size 3 .i64 n (Nat.le_refl _) (by omega)⟩
    have hb : Aside0 (Below w.heap.size w (w.alloc (.cells (madeCells #[.int .i64 0] n) 3))) := ⟨below_alloc (Below.refl _ _) _⟩
    clear hmk hn
    go_loopg [26] n (fun g i wr => ∃ k : Nat, i = .int .i64 k ∧ Aside0 (wr.ownsRow w.heap.size 3 1 (.slice (some ⟨w.heap.size, 0, none⟩) n n) n (nums .i64 (List.replicate (n - k) 0 ++ (joinL l0 l1).drop (n - k)))) ∧
      Aside0 (Below w.heap.size w wr) ∧ Aside0 (k ≤ n ∧ g = n - k ∧ ∀ i, i < k → fitB (sideF l0 i) (sideF l1 i) = true))
    case atStart =>
      refine ⟨0, rfl, ⟨?_⟩, hb, ⟨by omega, by omega, fun i hi => by omega⟩⟩
      rw [List.drop_eq_nil_of_le (by rw [joinL_length]; have := NN.out; omega)]
      simpa using ho.out
    case round =>
      clear ho hb
      obtain ⟨k, rfl, ho, hb, hk⟩ := hrel
      obtain ⟨hk1, hg, hf⟩ := hk.out
      clear hk
      have R0 : Aside0 (Kd.C (Kd.int .i64) wr A0 l0.length l0) := ⟨Kd.C_below HR0.out hb.out⟩
      have R1 : Aside0 (Kd.C (Kd.int .i64) wr A1 l1.length l1) := ⟨Kd.C_below HR1.out hb.out⟩
      by_cases hlt : k < n
      · have c1 : decide ((k : Int) < (n : Int)) = true := by simpa using hlt
        have c2 : decide (k < n) = true := by simpa using hlt
        have w1 : IntKind.i64.wrap ((n : Int) - 1) = ((n - 1 : Nat) : Int) := by rw [wrap_in _ ⟨by omega, by omega⟩]; omega
        have w2 : IntKind.i64.wrap (((n - 1 : Nat) : Int) - (k : Int)) = ((n - 1 - k : Nat) : Int) := by rw [wrap_in _ ⟨by omega, by omega⟩]; omega
        have w3 : IntKind.i64.wrap ((k : Int) + 1) = ((k + 1 : Nat) : Int) := by rw [wrap_in _ ⟨by omega, by omega⟩]; omega
        have b1 : n - 1 - k < n := by omega
        have G := Aside0.mk (And.intro hg hf)
        clear hg hf
        go_wp2_with fail
        refine (side_any _ _ l0 k _ R0.out (by omega) (by omega)).mono ?_
        rintro e w' ⟨rfl, rfl⟩
        go_wp2_with fail
        refine (side_any _ _ l1 k _ R1.out (by omega) (by omega)).mono ?_
        rintro e w' ⟨rfl, rfl⟩
        have hat := join_at l0 l1 k (by have := NN.out; omega)
        obtain ⟨x, hx⟩ : ∃ x, sideF l0 k = x := ⟨_, rfl⟩
        obtain ⟨y, hy⟩ : ∃ y, sideF l1 k = y := ⟨_, rfl⟩
        rw [joinAt] at hat
        rw [hx, hy] at hat ⊢
        have X := Aside0.mk (And.intro hx hy)
        have AT := Aside0.mk hat
        clear hx hy hat
        by_cases hfit : fitB x y = true
        · have hown := own_store ho.out ((n - 1 - k : Nat) : Int) (max x y)
          have hcell := own_at ho.out ((n - 1 - k : Nat) : Int) (by omega) (by omega)
          simp only [Int.toNat_natCast] at hown hcell
          obtain ⟨hc1, hc2⟩ := hcell
          have OW := Aside0.mk hown
          have FT := Aside0.mk hfit
          clear hown
          have hne : (n == 0) = false := by simp; omega
          have key : (x != y) = false ∨ (x != y) = true ∧ ((x != 1) = false ∨ (x != 1) = true ∧ (y != 1) = false) := by
            simp only [fitB, Bool.or_eq_true, decide_eq_true_eq] at hfit
            by_cases e1 : x = y
            · left; simpa using e1
            · right
              refine ⟨by simpa using e1, ?_⟩
              by_cases e2 : x = 1
              · left; simpa using e2
              · right; exact ⟨by simpa using e2, by simp; omega⟩
          clear hfit
          have fin : Aside0 ((wr.setCell ⟨w.heap.size, n - 1 - k, none⟩ (.int .i64 (max x y))).ownsRow w.heap.size 3 1 (.slice (some ⟨w.heap.size, 0, none⟩) n n) n (nums .i64 (List.replicate (n - (k + 1)) 0 ++ (joinL l0 l1).drop (n - (k + 1))))) := ⟨by
            have hL : (joinL l0 l1).length = n := by rw [joinL_length]; exact NN.out
            have := join_step (joinL l0 l1) k (max x y) (by omega) AT.out
            rw [hL] at this
            rw [← this]
            exact OW.out.1⟩
          have fin2 : Aside0 (Below w.heap.size w (wr.setCell ⟨w.heap.size, n - 1 - k, none⟩ (.int .i64 (max x y)))) := ⟨hb.out.setCell (p := ⟨w.heap.size, n - 1 - k, none⟩) (Nat.le_refl _) _⟩
          clear ho hb OW AT R0 R1
          rcases key with key | ⟨key, key2 | ⟨key2, key3⟩⟩
          all_goals
            go_wp2
            go_roundg (n - (k + 1))
            case measure => have := G.out.1; omega
            case rel => exact ⟨k + 1, by first | rfl | simp, fin, fin2, ⟨by omega, rfl, fun i hi => by
              by_cases e : i = k
              · subst e; rw [X.out.1, X.out.2]; exact FT.out
              · exact G.out.2 i (by omega)⟩⟩
        · have hfit' : fitB x y = false := by simpa using hfit
          have hj : joinOk l0 l1 = false := by
            rw [Bool.eq_false_iff]; intro h
            simp only [joinOk, Bool.and_eq_true, List.all_eq_true, List.mem_range] at h
            have := h.1.2 k (by have := NN.out; omega)
            rw [X.out.1, X.out.2] at this
            rw [hfit'] at this; cases this
          have hr := H.out
          rw [hj] at hr
          simp only [Bool.false_eq_true, if_false, Prod.mk.injEq] at hr
          obtain ⟨rfl, rfl⟩ := hr
          have e1 : (x != y) = true := by
            simp only [fitB, Bool.or_eq_false_iff, decide_eq_false_iff_not] at hfit'; simpa using hfit'.1.1
          have e2 : (x != 1) = true := by
            simp only [fitB, Bool.or_eq_false_iff, decide_eq_false_iff_not] at hfit'; simpa using hfit'.1.2
          have e3 : (y != 1) = true := by
            simp only [fitB, Bool.or_eq_false_iff, decide_eq_false_iff_not] at hfit'; simpa using hfit'.2
          clear hfit hfit' hj
          go_wp2
          go_ret2
          exact ⟨_, rfl, Kd.R_nil _ _ _ _ _, hb.out⟩
      · obtain rfl : k = n := by omega
        have c1 : decide ((k : Int) < (k : Int)) = false := by simp
        have c2 : decide (k < k) = false := by simp
        have hL : (joinL l0 l1).length = k := by rw [joinL_length]; exact NN.out
        have ho2 : Aside0 (wr.ownsRow w.heap.size 3 1 (.slice (some ⟨w.heap.size, 0, none⟩) (joinL l0 l1).length k) (joinL l0 l1).length (nums .i64 (joinL l0 l1))) := ⟨by
          have := ho.out; rw [hL]; simpa using this⟩
        have hC : Aside0 (Kd.C (Kd.int .i64) wr (some ⟨w.heap.size, 0, none⟩) (joinL l0 l1).length (joinL l0 l1)) := ⟨toC (own_reads' ho2.out)⟩
        have hj : joinOk l0 l1 = shapeOk (joinL l0 l1) := by
          simp only [joinOk, k0, k1, Bool.true_and]
          rw [show (List.range (joinN l0 l1)).all (fun i => fitB (sideF l0 i) (sideF l1 i)) = true by
            rw [List.all_eq_true]; intro i hi; rw [List.mem_range] at hi; exact hf i (by have := NN.out; omega)]
          simp
        have hr := H.out
        rw [hj] at hr
        have HR := Aside0.mk hr
        have HL := Aside0.mk hL
        clear hr hj hL hf hg hlt ho hk1
        go_wp2_with fail
        rw [← HL.out]
        refine (check_any _ _ (joinL l0 l1) _ hC.out).mono ?_
        rintro e w' ⟨rfl, rfl⟩
        by_cases hs : shapeOk (joinL l0 l1) = true
        · rw [hs] at HR ⊢
          have hr := HR.out
          simp only [if_true, Prod.mk.injEq] at hr
          obtain ⟨rfl, rfl⟩ := hr
          go_wp2
          go_ret2
          exact ⟨_, rfl, toR (by have := ho2.out; rwa [HL.out] at this ⊢) (fun _ _ => trivial), hb.out⟩
        · replace hs : shapeOk (joinL l0 l1) = false := by simpa using hs
          rw [hs] at HR ⊢
          have hr := HR.out
          simp only [Bool.false_eq_true, if_false, Prod.mk.injEq] at hr
          obtain ⟨rfl, rfl⟩ := hr
          go_wp2
          go_ret2
          exact ⟨_, rfl, Kd.R_nil _ _ _ _ _, hb.out⟩
  · have hj : joinOk l0 l1 = false := by
      rw [Bool.eq_false_iff]; intro h
      simp only [joinOk, Bool.and_eq_true] at h
      exact ok ⟨h.1.1.1, h.1.1.2⟩
    have hr := H.out
    rw [hj] at hr
    simp only [Bool.false_eq_true, if_false, Prod.mk.injEq] at hr
    obtain ⟨rfl, rfl⟩ := hr
    clear hj H
    by_cases k0 : shapeOk l0 = true
    · have k1 : shapeOk l1 = false := by
        rw [Bool.eq_false_iff]; exact fun h => ok ⟨k0, h⟩
      clear ok
      go_enter Try.func23, Try.ntmps23
      go_wp2_with fail
      refine (check_any _ _ l0 _ HR0.out).mono ?_
      rw [k0]
      rintro e w' ⟨rfl, rfl⟩
      go_wp2_with fail
      refine (check_any _ _ l1 _ HR1.out).mono ?_
      rw [k1]
      rintro e w' ⟨rfl, rfl⟩
      go_wp2
      go_ret2
      exact ⟨_, rfl, Kd.R_nil _ _ _ _ _, Below.refl _ _⟩
    · replace k0 : shapeOk l0 = false := by simpa using k0
      clear ok
      go_enter Try.func23, Try.ntmps23
      go_wp2_with fail
      refine (check_any _ _ l0 _ HR0.out).mono ?_
      rw [k0]
      rintro e w' ⟨rfl, rfl⟩
      go_wp2
      go_ret2
      exact ⟨_, rfl, Kd.R_nil _ _ _ _ _, Below.refl _ _⟩

end Go.Proofs.Ytpnigmcpifilmaa.P
