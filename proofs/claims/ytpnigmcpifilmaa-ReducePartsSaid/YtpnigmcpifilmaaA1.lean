/- Contracts of bits.Mul64 and of fix.Mul, fix.Sqrt and what they call. -/
import Derived.Test.YtpnigmcpifilmaaA0
import Derived.Laws.BitsLemmas
namespace Go.Proofs.Ytpnigmcpifilmaa.P
open Go.RowKit Go.Proofs.YtpnigmcpifilmaaW.PrintWords Go.Proofs.YtpnigmcpifilmaaW.PrintLast Go.Proofs.YtpnigmcpifilmaaW.PrintMore
set_option linter.unusedVariables false
set_option linter.unusedSimpArgs false
theorem u64_wrap (n : Int) : IntKind.u64.wrap n = n % 18446744073709551616 := by simp [IntKind.wrap, IntKind.bits, IntKind.signed]
theorem u64_in (n : Int) (h : 0 ≤ n ∧ n < 18446744073709551616) : IntKind.u64.wrap n = n := by rw [u64_wrap]; omega
theorem u64_and32 (x : Int) (h₀ : 0 ≤ x) (h₁ : x < 18446744073709551616) : bits .and .u64 x 4294967295 = x % 4294967296 :=
  bits_mask .u64 64 (by decide) (fun n h0 h1 => u64_in n ⟨h0, by omega⟩) 32 (by decide) x h₀ (by omega)
theorem mul_parts (a1 a0 b1 b0 : Int) : (a1 * 4294967296 + a0) * (b1 * 4294967296 + b0) = a1 * b1 * 18446744073709551616 + (a1 * b0 + a0 * b1) * 4294967296 + a0 * b0 := by grind
theorem mul_bd (x y : Int) (hx : 0 ≤ x) (hx2 : x ≤ 4294967295) (hy : 0 ≤ y) (hy2 : y ≤ 4294967295) : 0 ≤ x * y ∧ x * y ≤ 18446744065119617025 := by
  constructor
  · exact Int.mul_nonneg hx hy
  · have := Int.mul_le_mul hx2 hy2 hy (by omega)
    omega
def hiOf (a b : Int) : Int := IntKind.u64.wrap (IntKind.u64.wrap (IntKind.u64.wrap (a / 4294967296 * (b / 4294967296)) + IntKind.u64.wrap (IntKind.u64.wrap (a / 4294967296 * bits BinOp.and .u64 b 4294967295) + IntKind.u64.wrap (bits BinOp.and .u64 a 4294967295 * bits BinOp.and .u64 b 4294967295) / 4294967296) / 4294967296) +
  IntKind.u64.wrap (bits BinOp.and .u64 (IntKind.u64.wrap (IntKind.u64.wrap (a / 4294967296 * bits BinOp.and .u64 b 4294967295) + IntKind.u64.wrap (bits BinOp.and .u64 a 4294967295 * bits BinOp.and .u64 b 4294967295) / 4294967296)) 4294967295 + IntKind.u64.wrap (bits BinOp.and .u64 a 4294967295 * (b / 4294967296))) / 4294967296)
theorem hiOf_eq (a b : Int) (ha : 0 ≤ a) (ha2 : a < 18446744073709551616) (hb : 0 ≤ b) (hb2 : b < 18446744073709551616) : hiOf a b = a * b / 18446744073709551616 := by
  unfold hiOf
  rw [u64_and32 a ha ha2, u64_and32 b hb hb2]
  obtain ⟨a1, ea1⟩ : ∃ a1, a / 4294967296 = a1 := ⟨_, rfl⟩
  obtain ⟨a0, ea0⟩ : ∃ a0, a % 4294967296 = a0 := ⟨_, rfl⟩
  obtain ⟨b1, eb1⟩ : ∃ a1, b / 4294967296 = a1 := ⟨_, rfl⟩
  obtain ⟨b0, eb0⟩ : ∃ a0, b % 4294967296 = a0 := ⟨_, rfl⟩
  rw [ea1, ea0, eb1, eb0]
  have hab : a * b = a1 * b1 * 18446744073709551616 + (a1 * b0 + a0 * b1) * 4294967296 + a0 * b0 := by
    rw [← mul_parts]; congr 1 <;> omega
  rw [hab]
  have p := mul_bd a1 b1 (by omega) (by omega) (by omega) (by omega)
  have q := mul_bd a1 b0 (by omega) (by omega) (by omega) (by omega)
  have r := mul_bd a0 b1 (by omega) (by omega) (by omega) (by omega)
  have s := mul_bd a0 b0 (by omega) (by omega) (by omega) (by omega)
  generalize a1 * b1 = P at *
  generalize a1 * b0 = Q at *
  generalize a0 * b1 = R at *
  generalize a0 * b0 = S at *
  clear hab ea1 ea0 eb1 eb0
  rw [u64_in P ⟨by omega, by omega⟩, u64_in Q ⟨by omega, by omega⟩, u64_in R ⟨by omega, by omega⟩, u64_in S ⟨by omega, by omega⟩, u64_in (Q + S / 4294967296) ⟨by omega, by omega⟩,
    u64_and32 (Q + S / 4294967296) (by omega) (by omega), u64_in ((Q + S / 4294967296) % 4294967296 + R) ⟨by omega, by omega⟩, u64_in (P + (Q + S / 4294967296) / 4294967296) ⟨by omega, by omega⟩, u64_in _ ⟨by omega, by omega⟩]
  omega
theorem tup2 {a b c d : Int} (h1 : a = c) (h2 : b = d) : Ending.returned (.tuple #[.int .u64 a, .int .u64 b]) = .returned (.tuple #[.int .u64 c, .int .u64 d]) := by rw [h1, h2]
set_option maxRecDepth 100000 in
theorem mul64_any (a b : Int) (ha : 0 ≤ a) (ha2 : a < 18446744073709551616) (hb : 0 ≤ b) (hb2 : b < 18446744073709551616) (w : World) :
    Calls Try.prog 52 #[.int .u64 a, .int .u64 b] w fun e w' => e = .returned (.tuple #[.int .u64 (a * b / 18446744073709551616), .int .u64 (a * b % 18446744073709551616)]) ∧ w = w' := by
  have h1 := hiOf_eq a b ha ha2 hb hb2
  have h2 := u64_wrap (a * b)
  have H := Aside0.mk (And.intro h1 h2)
  clear ha ha2 hb hb2 h1 h2
  go_enter Try.func52, Try.ntmps52
  go_wp2
  go_ret2
  exact ⟨tup2 H.out.1 H.out.2, rfl⟩

/-! fix.wide.signed -/
theorem add64_run (x y c : Int) (hx : 0 ≤ x) (hy : 0 ≤ y) (hc0 : 0 ≤ c) (hc : c ≤ 1) (w : World) :
    (callFunc 101 #[.int .u64 x, .int .u64 y, .int .u64 c]).run Try.prog w =
      .ok (.value (.tuple #[.int .u64 ((x + y + c) % 18446744073709551616), .int .u64 ((x + y + c) / 18446744073709551616)])) w := by
  rw [run_callFunc_extern Try.func101 (by kernel_rfl) (by kernel_rfl) (by kernel_rfl) (e := add64Entry) (by kernel_rfl), run_add64 x y c hx hy hc0 hc]
  rfl
theorem sub64_run (x y b : Nat) (hb : b ≤ 1) (w : World) :
    (callFunc 114 #[.int .u64 x, .int .u64 y, .int .u64 b]).run Try.prog w =
      .ok (.value (.tuple #[.int .u64 (((x + 18446744073709551616 - y - b) % 18446744073709551616 : Nat) : Int), .int .u64 ((if x < y + b then 1 else 0 : Nat) : Int)])) w := by
  rw [run_callFunc_extern Try.func114 (by kernel_rfl) (by kernel_rfl) (by kernel_rfl) (e := sub64Entry) (by kernel_rfl), run_sub64 x y b hb]
  rfl
/-- a whole number with a sign, floored, of which something is left, or not -/
def sgn (v : Int) (rest below : Bool) : Int × Int :=
  if below then (if (if rest then v + 1 else v) > 9223372036854775808 then (0, 10) else (-(if rest then v + 1 else v), 0))
  else if v > 9223372036854775807 then (0, 10) else (v, 0)
theorem tup_i64 {a b c d : Int} (h1 : a = c) (h2 : b = d) : Ending.returned (.tuple #[.int .i64 a, .int .i64 b]) = .returned (.tuple #[.int .i64 c, .int .i64 d]) := by rw [h1, h2]
def SgnPost (v : Int) (rest below : Bool) (w : World) (e : Ending) (w' : World) : Prop :=
  e = .returned (.tuple #[.int .i64 (sgn v rest below).1, .int .i64 (sgn v rest below).2]) ∧ Below w.heap.size w w'
theorem sgn_pos_over {v : Int} {r : Bool} (h : v > 9223372036854775807) : sgn v r false = (0, 10) := by unfold sgn; rw [if_neg (by simp), if_pos h]
theorem sgn_pos_in {v : Int} {r : Bool} (h : ¬ v > 9223372036854775807) : sgn v r false = (v, 0) := by unfold sgn; rw [if_neg (by simp), if_neg h]
theorem sgn_neg_over {v x : Int} {r : Bool} (hx : (if r = true then v + 1 else v) = x) (h : x > 9223372036854775808) : sgn v r true = (0, 10) := by unfold sgn; rw [hx, if_pos rfl, if_pos h]
theorem sgn_neg_in {v x : Int} {r : Bool} (hx : (if r = true then v + 1 else v) = x) (h : ¬ x > 9223372036854775808) : sgn v r true = (-x, 0) := by unfold sgn; rw [hx, if_pos rfl, if_neg h]
theorem neg_back (x : Int) (h0 : 0 ≤ x) (h1 : x ≤ 9223372036854775808) : wrap64 (IntKind.u64.wrap (-x)) = -x := by
  rw [u64_wrap]; unfold wrap64; omega
set_option maxRecDepth 100000 in
theorem signed_pos (hi lo : Int) (rest : Bool) (h0 : 0 ≤ hi) (h1 : 0 ≤ lo) (h2 : lo < 18446744073709551616) (w : World) :
    Calls Try.prog 54 #[.agg #[.int .u64 hi, .int .u64 lo], .bool rest, .bool false] w (SgnPost (hi * 18446744073709551616 + lo) rest false w) := by
  obtain ⟨v, hv⟩ : ∃ v, hi * 18446744073709551616 + lo = v := ⟨_, rfl⟩
  rw [hv]
  by_cases c1 : 0 < hi
  · have S := Aside0.mk (sgn_pos_over (v := v) (r := rest) (by omega))
    have d1 : decide (0 < hi) = true := by simpa using c1
    clear hv
    go_enter Try.func54, Try.ntmps54
    go_wp2
    go_ret2
    exact ⟨by rw [S.out]; rfl, below_alloc (Below.refl _ _) _⟩
  · have d1 : decide (0 < hi) = false := by simpa using c1
    by_cases c2 : 9223372036854775807 < lo
    · have S := Aside0.mk (sgn_pos_over (v := v) (r := rest) (by omega))
      have d2 : decide (9223372036854775807 < lo) = true := by simpa using c2
      clear hv
      go_enter Try.func54, Try.ntmps54
      go_wp2
      go_ret2
      exact ⟨by rw [S.out]; rfl, below_alloc (Below.refl _ _) _⟩
    · have S := Aside0.mk (sgn_pos_in (v := v) (r := rest) (by omega))
      have d2 : decide (9223372036854775807 < lo) = false := by simpa using c2
      obtain rfl : lo = v := by omega
      clear hv
      go_enter Try.func54, Try.ntmps54
      go_wp2
      go_ret2
      exact ⟨by rw [S.out]; rfl, below_alloc (Below.refl _ _) _⟩
set_option maxRecDepth 100000 in
theorem signed_neg (hi lo : Int) (h0 : 0 ≤ hi) (h1 : 0 ≤ lo) (h2 : lo < 18446744073709551616) (w : World) :
    Calls Try.prog 54 #[.agg #[.int .u64 hi, .int .u64 lo], .bool false, .bool true] w (SgnPost (hi * 18446744073709551616 + lo) false true w) := by
  obtain ⟨v, hv⟩ : ∃ v, hi * 18446744073709551616 + lo = v := ⟨_, rfl⟩
  rw [hv]
  by_cases c1 : 0 < hi
  · have S := Aside0.mk (sgn_neg_over (v := v) (r := false) (x := v) (by simp) (by omega))
    have d1 : decide (0 < hi) = true := by simpa using c1
    clear hv
    go_enter Try.func54, Try.ntmps54
    go_wp2
    go_ret2
    exact ⟨by rw [S.out]; rfl, below_alloc (Below.refl _ _) _⟩
  · have d1 : decide (0 < hi) = false := by simpa using c1
    by_cases c2 : 9223372036854775808 < lo
    · have S := Aside0.mk (sgn_neg_over (v := v) (r := false) (x := v) (by simp) (by omega))
      have d2 : decide (9223372036854775808 < lo) = true := by simpa using c2
      clear hv
      go_enter Try.func54, Try.ntmps54
      go_wp2
      go_ret2
      exact ⟨by rw [S.out]; rfl, below_alloc (Below.refl _ _) _⟩
    · have S := Aside0.mk (sgn_neg_in (v := v) (r := false) (x := v) (by simp) (by omega))
      have d2 : decide (9223372036854775808 < lo) = false := by simpa using c2
      obtain rfl : lo = v := by omega
      have nb := neg_back lo h1 (by omega)
      clear hv
      go_enter Try.func54, Try.ntmps54
      go_wp2
      go_ret2
      exact ⟨by rw [S.out]; rfl, below_alloc (Below.refl _ _) _⟩
set_option maxRecDepth 100000 in
theorem signed_up (hi lo : Int) (h0 : 0 ≤ hi) (hh : hi < 9223372036854775808) (h1 : 0 ≤ lo) (h2 : lo < 18446744073709551616) (w : World) :
    Calls Try.prog 54 #[.agg #[.int .u64 hi, .int .u64 lo], .bool true, .bool true] w (SgnPost (hi * 18446744073709551616 + lo) true true w) := by
  obtain ⟨v, hv⟩ : ∃ v, hi * 18446744073709551616 + lo = v := ⟨_, rfl⟩
  rw [hv]
  have ha := add64_run lo 1 0 h1 (by omega) (by omega) (by omega)
  obtain ⟨l2, hl2⟩ : ∃ l2, (lo + 1 + 0) % 18446744073709551616 = l2 := ⟨_, rfl⟩
  obtain ⟨c, hc⟩ : ∃ c, (lo + 1 + 0) / 18446744073709551616 = c := ⟨_, rfl⟩
  rw [hl2, hc] at ha
  have hw : IntKind.u64.wrap (hi + c) = hi + c := u64_in _ ⟨by omega, by omega⟩
  have hx : Aside0 ((if (true : Bool) = true then v + 1 else v) = (hi + c) * 18446744073709551616 + l2) := ⟨by rw [if_pos rfl]; omega⟩
  have B : Aside0 (0 ≤ l2 ∧ l2 < 18446744073709551616 ∧ 0 ≤ c ∧ c ≤ 1) := ⟨by omega⟩
  clear hl2 hc hv
  have b1 := B.out.2.2.1
  have hb : Aside0 (Below w.heap.size w (((w.alloc (.cells #[.int .u64 hi, .int .u64 lo] 80)).setCell ⟨w.heap.size, 1, none⟩ (.int .u64 l2)).setCell ⟨w.heap.size, 0, none⟩ (.int .u64 (hi + c)))) :=
    ⟨((below_alloc (Below.refl _ _) _).setCell (p := ⟨w.heap.size, 1, none⟩) (Nat.le_refl _) _).setCell (p := ⟨w.heap.size, 0, none⟩) (Nat.le_refl _) _⟩
  have hb2 : Aside0 (Below w.heap.size w (w.alloc (.cells #[.int .u64 (hi + c), .int .u64 l2] 80))) := ⟨below_alloc (Below.refl _ _) _⟩
  by_cases c1 : 0 < hi + c
  · have S := Aside0.mk (sgn_neg_over (v := v) (r := true) hx.out (by have := B.out; omega))
    have d1 : decide (0 < hi + c) = true := by simpa using c1
    go_enter Try.func54, Try.ntmps54
    go_wp2
    go_end0
    go_wp2
    go_ret2
    exact ⟨by rw [S.out]; rfl, by first | exact hb2.out | exact hb.out⟩
  · have d1 : decide (0 < hi + c) = false := by simpa using c1
    by_cases c2 : 9223372036854775808 < l2
    · have S := Aside0.mk (sgn_neg_over (v := v) (r := true) hx.out (by have := B.out; omega))
      have d2 : decide (9223372036854775808 < l2) = true := by simpa using c2
      go_enter Try.func54, Try.ntmps54
      go_wp2
      go_end0
      go_wp2
      go_ret2
      exact ⟨by rw [S.out]; rfl, by first | exact hb2.out | exact hb.out⟩
    · have S := Aside0.mk (sgn_neg_in (v := v) (r := true) hx.out (by have := B.out; omega))
      have hv : (hi + c) * 18446744073709551616 + l2 = l2 := by have := B.out; omega
      rw [hv] at S
      have d2 : decide (9223372036854775808 < l2) = false := by simpa using c2
      have nb := neg_back l2 B.out.1 (by omega)
      clear hv
      go_enter Try.func54, Try.ntmps54
      go_wp2
      go_end0
      go_wp2
      go_ret2
      exact ⟨by rw [S.out]; first | rfl | exact tup_i64 nb rfl, by first | exact hb2.out | exact hb.out⟩
theorem signed_any (hi lo : Int) (rest below : Bool) (h0 : 0 ≤ hi) (hh : hi < 9223372036854775808) (h1 : 0 ≤ lo) (h2 : lo < 18446744073709551616) (w : World) :
    Calls Try.prog 54 #[.agg #[.int .u64 hi, .int .u64 lo], .bool rest, .bool below] w (SgnPost (hi * 18446744073709551616 + lo) rest below w) := by
  cases below
  · exact signed_pos hi lo rest h0 h1 h2 w
  · cases rest
    · exact signed_neg hi lo h0 h1 h2 w
    · exact signed_up hi lo h0 hh h1 h2 w

/-! fix.size, fix.apart, fix.Mul -/
abbrev isI64 (a : Int) : Prop := -9223372036854775808 ≤ a ∧ a ≤ 9223372036854775807
theorem size_any (a : Int) (h : isI64 a) (w : World) :
    Calls Try.prog 53 #[.int .i64 a] w fun e w' => e = .returned (.int .u64 a.natAbs) ∧ w = w' := by
  by_cases c : a < 0
  · have d : decide (a < 0) = true := by simpa using c
    have hv : Aside0 (IntKind.u64.wrap (-IntKind.u64.wrap a) = (a.natAbs : Int)) := ⟨by rw [u64_wrap, u64_wrap]; omega⟩
    go_enter Try.func53, Try.ntmps53
    go_wp2
    go_ret
    exact ⟨ret_val (by first | (show Value.int .u64 (IntKind.u64.wrap (-IntKind.u64.wrap a)) = _; rw [hv.out])), rfl⟩
  · have d : decide (a < 0) = false := by simpa using c
    have hv : Aside0 (IntKind.u64.wrap a = (a.natAbs : Int)) := ⟨by rw [u64_wrap]; omega⟩
    go_enter Try.func53, Try.ntmps53
    go_wp2
    go_ret
    refine ⟨ret_val (by first | (show Value.int .u64 (IntKind.u64.wrap a) = _; rw [hv.out]) | (show Value.int .u64 a = _; congr 1; omega)), rfl⟩
def apartB (a b : Int) : Bool := (a != 0) && ((b != 0) && ((decide (a < 0)) != (decide (b < 0))))
theorem apart_any (a b : Int) (w : World) :
    Calls Try.prog 55 #[.int .i64 a, .int .i64 b] w fun e w' => e = .returned (.bool (apartB a b)) ∧ w = w' := by
  by_cases c1 : a = 0
  · have d : (a != 0) = false := by simpa using c1
    have H : Aside0 (apartB a b = false) := ⟨by unfold apartB; rw [d]; rfl⟩
    clear c1
    go_enter Try.func55, Try.ntmps55
    go_wp2
    go_ret
    exact ⟨by rw [H.out]; rfl, rfl⟩
  · have d : (a != 0) = true := by simpa using c1
    by_cases c2 : b = 0
    · have d2 : (b != 0) = false := by simpa using c2
      have H : Aside0 (apartB a b = false) := ⟨by unfold apartB; rw [d2]; simp⟩
      clear c1 c2
      go_enter Try.func55, Try.ntmps55
      go_wp2
      go_ret
      exact ⟨by rw [H.out]; rfl, rfl⟩
    · have d2 : (b != 0) = true := by simpa using c2
      have H : Aside0 (apartB a b = ((decide (a < 0)) != (decide (b < 0)))) := ⟨by unfold apartB; rw [d, d2]; rfl⟩
      clear c1 c2
      by_cases e1 : a < 0 <;> by_cases e2 : b < 0
      all_goals
        have f1 := Aside0.mk e1
        have f2 := Aside0.mk e2
        simp only [e1, e2, decide_true, decide_false] at H
        first | have g1 : decide (a < 0) = true := decide_eq_true e1 | have g1 : decide (a < 0) = false := decide_eq_false e1
        first | have g2 : decide (b < 0) = true := decide_eq_true e2 | have g2 : decide (b < 0) = false := decide_eq_false e2
        clear e1 e2
        go_enter Try.func55, Try.ntmps55
        go_wp2
        go_ret
        exact ⟨by rw [H.out]; rfl, rfl⟩
theorem mul_bd2 (x y : Nat) (hx : x ≤ 9223372036854775808) (hy : y ≤ 9223372036854775808) : 0 ≤ (x : Int) * (y : Int) ∧ (x : Int) * (y : Int) ≤ 85070591730234615865843651857942052864 := by
  constructor
  · exact Int.mul_nonneg (by omega) (by omega)
  · have := Int.mul_le_mul (show (x : Int) ≤ 9223372036854775808 by omega) (show (y : Int) ≤ 9223372036854775808 by omega) (by omega) (by omega)
    omega
def mulF (a b : Int) : Int × Int := if isI64 (a * b / 4294967296) then (a * b / 4294967296, 0) else (0, 10)
theorem natAbs_pos_cases (a b : Int) : apartB a b = true ∧ a * b = -((a.natAbs : Int) * (b.natAbs : Int)) ∧ 0 < (a.natAbs : Int) * (b.natAbs : Int) ∨ apartB a b = false ∧ a * b = (a.natAbs : Int) * (b.natAbs : Int) := by
  by_cases ha : a = 0
  · subst ha; right; simp [apartB]
  by_cases hb : b = 0
  · subst hb; right; simp [apartB]
  have pa : 0 < (a.natAbs : Int) := by omega
  have pb : 0 < (b.natAbs : Int) := by omega
  have pp := Int.mul_pos pa pb
  by_cases h1 : a < 0 <;> by_cases h2 : b < 0
  · right; refine ⟨by simp [apartB, h1, h2], ?_⟩
    have e1 : a = -(a.natAbs : Int) := by omega
    have e2 : b = -(b.natAbs : Int) := by omega
    generalize (a.natAbs : Int) = x at *
    generalize (b.natAbs : Int) = y at *
    rw [e1, e2, Int.neg_mul_neg]
  · left; refine ⟨by simp [apartB, h1, h2, ha, hb], ?_, pp⟩
    have e1 : a = -(a.natAbs : Int) := by omega
    have e2 : b = (b.natAbs : Int) := by omega
    generalize (a.natAbs : Int) = x at *
    generalize (b.natAbs : Int) = y at *
    rw [e1, e2, Int.neg_mul]
  · left; refine ⟨by simp [apartB, h1, h2, ha, hb], ?_, pp⟩
    have e1 : a = (a.natAbs : Int) := by omega
    have e2 : b = -(b.natAbs : Int) := by omega
    generalize (a.natAbs : Int) = x at *
    generalize (b.natAbs : Int) = y at *
    rw [e1, e2, Int.mul_neg]
  · right; refine ⟨by simp [apartB, h1, h2], ?_⟩
    have e1 : a = (a.natAbs : Int) := by omega
    have e2 : b = (b.natAbs : Int) := by omega
    generalize (a.natAbs : Int) = x at *
    generalize (b.natAbs : Int) = y at *
    rw [e1, e2]
theorem mul_sgn (a b p : Int) (hp : p = (a.natAbs : Int) * (b.natAbs : Int)) : sgn (p / 4294967296) (p % 4294967296 != 0) (apartB a b) = mulF a b := by
  unfold mulF
  rcases natAbs_pos_cases a b with ⟨h1, h2, h3⟩ | ⟨h1, h2⟩
  · rw [h1, h2, ← hp]
    rw [← hp] at h3
    by_cases hr : p % 4294967296 = 0
    · have : (p % 4294967296 != 0) = false := by simpa using hr
      rw [this]
      by_cases ho : p / 4294967296 > 9223372036854775808
      · rw [sgn_neg_over (x := p / 4294967296) (by simp) ho, if_neg (by omega)]
      · rw [sgn_neg_in (x := p / 4294967296) (by simp) ho, if_pos (by omega)]; congr 1; omega
    · have : (p % 4294967296 != 0) = true := by simpa using hr
      rw [this]
      by_cases ho : p / 4294967296 + 1 > 9223372036854775808
      · rw [sgn_neg_over (x := p / 4294967296 + 1) (by simp) ho, if_neg (by omega)]
      · rw [sgn_neg_in (x := p / 4294967296 + 1) (by simp) ho, if_pos (by omega)]; congr 1; omega
  · have h0 : 0 ≤ p := by rw [hp]; exact Int.mul_nonneg (by omega) (by omega)
    rw [h1, h2, ← hp]
    by_cases ho : p / 4294967296 > 9223372036854775807
    · rw [sgn_pos_over ho, if_neg (by omega)]
    · rw [sgn_pos_in ho, if_pos (by omega)]
theorem u64_or32 (h l : Int) (h0 : 0 ≤ h) (h1 : h < 18446744073709551616) (l0 : 0 ≤ l) (l1 : l < 18446744073709551616) :
    bits .or .u64 (IntKind.u64.wrap (h * 4294967296)) (l / 4294967296) = h * 4294967296 % 18446744073709551616 + l / 4294967296 := by
  rw [u64_wrap]
  exact bits_join .u64 64 (by decide) (fun n h0 h1 => u64_in n ⟨h0, by omega⟩) 32 _ _ (by omega) (by omega) (by omega) (by omega) (by omega) (by omega)
set_option maxRecDepth 100000 in
theorem fixMul_any (a b : Int) (ha : isI64 a) (hb : isI64 b) (w : World) :
    Calls Try.prog 21 #[.int .i64 a, .int .i64 b] w fun e w' => e = .returned (.tuple #[.int .i64 (mulF a b).1, .int .i64 (mulF a b).2]) ∧ Below w.heap.size w w' := by
  have HA := Aside0.mk ha
  have HB := Aside0.mk hb
  have bd := mul_bd2 a.natAbs b.natAbs (by omega) (by omega)
  obtain ⟨p, hp⟩ : ∃ p, p = (a.natAbs : Int) * (b.natAbs : Int) := ⟨_, rfl⟩
  have S := Aside0.mk (mul_sgn a b p hp)
  rw [← hp] at bd
  have P := Aside0.mk hp
  have bits1 := u64_or32 (p / 18446744073709551616) (p % 18446744073709551616) (by omega) (by omega) (by omega) (by omega)
  have and1 := u64_and32 (p % 18446744073709551616) (by omega) (by omega)
  have e1 : p % 18446744073709551616 % 4294967296 = p % 4294967296 := by omega
  rw [e1] at and1
  obtain ⟨lo, hlo⟩ : ∃ lo, lo = p / 18446744073709551616 * 4294967296 % 18446744073709551616 + p % 18446744073709551616 / 4294967296 := ⟨_, rfl⟩
  rw [← hlo] at bits1
  have V : Aside0 (p / 18446744073709551616 / 4294967296 * 18446744073709551616 + lo = p / 4294967296 ∧ 0 ≤ lo ∧ lo < 18446744073709551616) := ⟨by omega⟩
  have B := Aside0.mk bd
  clear ha hb hp e1 hlo bd
  go_enter Try.func21, Try.ntmps21
  go_wp2_with fail
  refine (size_any a HA.out _).mono ?_
  rintro e w' ⟨rfl, rfl⟩
  go_wp2_with fail
  refine (size_any b HB.out _).mono ?_
  rintro e w' ⟨rfl, rfl⟩
  go_wp2_with fail
  refine (mul64_any _ _ (by omega) (by have := HA.out; omega) (by omega) (by have := HB.out; omega) _).mono ?_
  rw [← P.out]
  rintro e w' ⟨rfl, rfl⟩
  go_wp2_with fail
  refine (apart_any a b _).mono ?_
  rintro e w' ⟨rfl, rfl⟩
  go_wp2_with fail
  refine (signed_any _ _ _ _ (by have := B.out; omega) (by have := B.out; omega) V.out.2.1 V.out.2.2 _).mono ?_
  rw [V.out.1]
  rintro e w' ⟨rfl, hb⟩
  rw [S.out]
  have hb := Aside0.mk hb
  go_wp2
  go_ret2
  exact ⟨rfl, hb.out⟩

/-! fix.Sqrt -/
def isq : Nat → Nat
  | 0 => 0
  | n + 1 => if (isq n + 1) * (isq n + 1) ≤ n + 1 then isq n + 1 else isq n
theorem isq_spec (n : Nat) : isq n * isq n ≤ n ∧ n < (isq n + 1) * (isq n + 1) := by
  induction n with
  | zero => simp [isq]
  | succ n ih =>
    unfold isq
    split
    · rename_i h
      refine ⟨h, ?_⟩
      have : (isq n + 1 + 1) * (isq n + 1 + 1) = (isq n + 1) * (isq n + 1) + 2 * (isq n + 1) + 1 := by grind
      omega
    · omega
theorem isq_uniq (n r : Nat) (h1 : r * r ≤ n) (h2 : n < (r + 1) * (r + 1)) : isq n = r := by
  obtain ⟨a, b⟩ := isq_spec n
  rcases Nat.lt_trichotomy (isq n) r with h | h | h
  · have := Nat.mul_le_mul (show isq n + 1 ≤ r by omega) (show isq n + 1 ≤ r by omega); omega
  · exact h
  · have := Nat.mul_le_mul (show r + 1 ≤ isq n by omega) (show r + 1 ≤ isq n by omega); omega
def sqrtF (a : Int) : Int × Int := if a < 0 then (0, 12) else (((isq (a.toNat * 4294967296) : Nat) : Int), 0)
theorem sqrt_borrow (a M h l : Nat) (ha : a ≤ 9223372036854775807) (hM : M = h * 18446744073709551616 + l) (hl : l < 18446744073709551616) :
    (if a / 4294967296 < h + (if a * 4294967296 % 18446744073709551616 < l + 0 then 1 else 0) then 1 else 0 : Nat) = if a * 4294967296 < M then 1 else 0 := by
  have e : a * 4294967296 = (a / 4294967296) * 18446744073709551616 + a * 4294967296 % 18446744073709551616 := by omega
  split <;> split <;> split <;> first | rfl | (exfalso; omega)
set_option maxRecDepth 100000 in
theorem sqrt_any (a : Int) (ha : isI64 a) (w : World) :
    Calls Try.prog 95 #[.int .i64 a] w fun e w' => e = .returned (.tuple #[.int .i64 (sqrtF a).1, .int .i64 (sqrtF a).2]) ∧ w = w' := by
  by_cases hn : a < 0
  · have d : decide (a < 0) = true := by simpa using hn
    have S : Aside0 (sqrtF a = (0, 12)) := ⟨by unfold sqrtF; rw [if_pos hn]⟩
    clear hn
    go_enter Try.func95, Try.ntmps95
    go_wp2
    go_ret2
    exact ⟨by rw [S.out]; rfl, rfl⟩
  · have d : decide (a < 0) = false := by simpa using hn
    obtain ⟨x, rfl⟩ := Int.eq_ofNat_of_zero_le (by omega : 0 ≤ a)
    have hx : x ≤ 9223372036854775807 := by omega
    have S : Aside0 (sqrtF (x : Int) = (((isq (x * 4294967296) : Nat) : Int), 0)) := ⟨by unfold sqrtF; rw [if_neg hn]; simp⟩
    clear ha hn
    go_enter Try.func95, Try.ntmps95
    go_wp2
    go_loopg [4, 5] 281474976710656 (fun g lo hi wr => ∃ p q : Nat, wr = w ∧ lo = .int .u64 p ∧ hi = .int .u64 q ∧ Aside0 (p < q ∧ q ≤ 281474976710656 ∧ g = q - p ∧ p * p ≤ x * 4294967296 ∧ x * 4294967296 < q * q))
    case atStart => exact ⟨0, 281474976710656, rfl, rfl, rfl, ⟨by omega⟩⟩
    case round =>
      obtain ⟨p, q, rfl, rfl, rfl, hk⟩ := hrel
      obtain ⟨h1, h2, h3, h4, h5⟩ := hk.out
      clear hk
      have w1 : IntKind.u64.wrap ((q : Int) - (p : Int)) = ((q - p : Nat) : Int) := by rw [u64_in _ ⟨by omega, by omega⟩]; omega
      by_cases hlt : 1 < q - p
      · have c1 : decide ((1 : Int) < ((q - p : Nat) : Int)) = true := by simp; omega
        have c2 : decide (1 < q - p) = true := by simpa using hlt
        have w2 : IntKind.u64.wrap ((p : Int) + (q : Int)) = ((p + q : Nat) : Int) := by rw [u64_in _ ⟨by omega, by omega⟩]; omega
        obtain ⟨m, hm⟩ : ∃ m, m = (p + q) / 2 := ⟨_, rfl⟩
        have w3 : ((p : Int) + (q : Int)) / 2 = (m : Int) := by omega
        have K := Aside0.mk (And.intro h1 (And.intro h2 (And.intro h3 (And.intro h4 (And.intro h5 hm)))))
        have hm2 : m ≤ 281474976710656 := by omega
        clear h1 h2 h3 h4 h5 hm
        obtain ⟨M, hM⟩ : ∃ M, M = m * m := ⟨_, rfl⟩
        obtain ⟨h, hh⟩ : ∃ h, h = M / 18446744073709551616 := ⟨_, rfl⟩
        obtain ⟨l, hl⟩ : ∃ l, l = M % 18446744073709551616 := ⟨_, rfl⟩
        have hmm : (m : Int) * (m : Int) = ((M : Nat) : Int) := by rw [hM]; simp
        have e1 : ((M : Nat) : Int) / 18446744073709551616 = (h : Int) := by omega
        have e2 : ((M : Nat) : Int) % 18446744073709551616 = (l : Int) := by omega
        have f1 := sub64_run (x * 4294967296 % 18446744073709551616) l 0 (by omega)
        have f2 := sub64_run (x / 4294967296) h (if x * 4294967296 % 18446744073709551616 < l + 0 then 1 else 0) (by split <;> omega)
        have sb := sqrt_borrow x M h l hx (by omega) (by omega)
        rw [sb] at f2
        obtain ⟨b1, hb1⟩ : ∃ b1 : Nat, (if x * 4294967296 % 18446744073709551616 < l + 0 then 1 else 0) = b1 := ⟨_, rfl⟩
        rw [hb1] at f1 f2
        obtain ⟨z1, hz1⟩ : ∃ z1 : Nat, (x * 4294967296 % 18446744073709551616 + 18446744073709551616 - l - 0) % 18446744073709551616 = z1 := ⟨_, rfl⟩
        obtain ⟨z2, hz2⟩ : ∃ z2 : Nat, (x / 4294967296 + 18446744073709551616 - h - b1) % 18446744073709551616 = z2 := ⟨_, rfl⟩
        rw [hz1] at f1
        rw [hz2] at f2
        obtain ⟨y1, hy1⟩ : ∃ y1 : Nat, x * 4294967296 % 18446744073709551616 = y1 := ⟨_, rfl⟩
        obtain ⟨y2, hy2⟩ : ∃ y2 : Nat, x / 4294967296 = y2 := ⟨_, rfl⟩
        have g1 : IntKind.u64.wrap ((x : Int) * 4294967296) = (y1 : Int) := by rw [u64_wrap]; omega
        have g2 : (x : Int) / 4294967296 = (y2 : Int) := by omega
        rw [hy1] at f1
        rw [hy2] at f2
        replace f1 : ∀ w, (callFunc 114 #[.int .u64 (y1 : Int), .int .u64 (l : Int), .int .u64 0]).run Try.prog w = .ok (.value (.tuple #[.int .u64 (z1 : Int), .int .u64 (b1 : Int)])) w := f1
        have MM := Aside0.mk hM
        clear hM hh hl sb hb1 hz1 hz2 hy1 hy2
        go_wp2_with fail
        rw [w3]
        refine (mul64_any (m : Int) (m : Int) (by omega) (by omega) (by omega) (by omega) _).mono ?_
        rw [hmm, e1, e2]
        rintro e w' ⟨rfl, rfl⟩
        clear hmm e1 e2
        by_cases hc : x * 4294967296 < M
        · rw [if_pos hc] at f2
          replace f2 : ∀ w, (callFunc 114 #[.int .u64 (y2 : Int), .int .u64 (h : Int), .int .u64 (b1 : Int)]).run Try.prog w = .ok (.value (.tuple #[.int .u64 (z2 : Int), .int .u64 1])) w := f2
          have C := Aside0.mk hc
          clear hc
          go_wp2
          go_roundg (m - p)
          case measure => have := K.out; omega
          case rel => exact ⟨p, m, rfl, rfl, rfl, ⟨by have := K.out; have := C.out; have := MM.out; omega⟩⟩
        · rw [if_neg hc] at f2
          replace f2 : ∀ w, (callFunc 114 #[.int .u64 (y2 : Int), .int .u64 (h : Int), .int .u64 (b1 : Int)]).run Try.prog w = .ok (.value (.tuple #[.int .u64 (z2 : Int), .int .u64 0])) w := f2
          have C := Aside0.mk hc
          clear hc
          go_wp2
          go_roundg (q - m)
          case measure => have := K.out; omega
          case rel => exact ⟨m, q, rfl, rfl, rfl, ⟨by have := K.out; have := C.out; have := MM.out; omega⟩⟩
      · have c1 : decide ((1 : Int) < ((q - p : Nat) : Int)) = false := by simp; omega
        have c2 : decide (1 < q - p) = false := by simpa using hlt
        obtain rfl : q = p + 1 := by omega
        have R : Aside0 (isq (x * 4294967296) = p) := ⟨isq_uniq _ _ h4 h5⟩
        have w9 : IntKind.i64.wrap (p : Int) = (p : Int) := wrap_in _ ⟨by omega, by omega⟩
        clear h1 h2 h3 h4 h5
        go_wp2
        go_ret2
        exact ⟨by rw [S.out, R.out]; rfl, rfl⟩

end Go.Proofs.Ytpnigmcpifilmaa.P
