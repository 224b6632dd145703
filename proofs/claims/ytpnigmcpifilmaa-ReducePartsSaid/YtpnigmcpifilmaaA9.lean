/- Contracts of fix.Add, Sub, Neg and Pow. -/
import Derived.Test.YtpnigmcpifilmaaA8
namespace Go.Proofs.Ytpnigmcpifilmaa.P
open Go.RowKit Go.Shelf Go.Proofs.YtpnigmcpifilmaaW.PrintWords Go.Proofs.YtpnigmcpifilmaaW.PrintLast Go.Proofs.YtpnigmcpifilmaaW.PrintMore
set_option linter.unusedVariables false
set_option linter.unusedSimpArgs false
attribute [local go_sem] max_mx min_mn
/-! fix.told, Add, Sub, Neg -/
def toldF (n : Int) (b : Bool) : Int × Int := if b then (n, 0) else (0, 10)
def addF (a b : Int) : Int × Int := toldF (a + b) (decide (-9223372036854775808 ≤ a + b ∧ a + b ≤ 9223372036854775807))
def subF (a b : Int) : Int × Int := toldF (a - b) (decide (-9223372036854775808 ≤ a - b ∧ a - b ≤ 9223372036854775807))
def negF (a : Int) : Int × Int := toldF (-a) (decide (a ≠ -9223372036854775808))
def reluF (a : Int) : Int × Int := (max a 0, 0)
theorem tup_eq {x y x' y' : Int} (h1 : x = x') (h2 : y = y') : Ending.returned (.tuple #[.int .i64 x, .int .i64 y]) = .returned (.tuple #[.int .i64 x', .int .i64 y']) := by rw [h1, h2]
theorem told_any (n : Int) (b : Bool) (w : World) :
    Calls Try.prog 103 #[.int .i64 n, .bool b] w fun e w' => e = .returned (.tuple #[.int .i64 (toldF n b).1, .int .i64 (toldF n b).2]) ∧ w = w' := by
  cases b
  all_goals
    go_enter Try.func103, Try.ntmps103
    go_wp2
    go_ret2
    exact ⟨rfl, rfl⟩
theorem i64_wrap (n : Int) : IntKind.i64.wrap n = (n + 9223372036854775808) % 18446744073709551616 - 9223372036854775808 := by simp [IntKind.wrap, IntKind.bits, IntKind.signed]; omega
theorem toldF_off {n m : Int} : toldF n false = toldF m false := rfl
set_option maxRecDepth 100000 in
theorem add_any (a b : Int) (ha : isI64 a) (hb : isI64 b) (w : World) :
    Calls Try.prog 59 #[.int .i64 a, .int .i64 b] w fun e w' => e = .returned (.tuple #[.int .i64 (addF a b).1, .int .i64 (addF a b).2]) ∧ w = w' := by
  obtain ⟨c, hc⟩ : ∃ c, IntKind.i64.wrap (a + b) = c := ⟨_, rfl⟩
  have hc2 := hc
  rw [i64_wrap] at hc2
  have key : ∀ m : Bool, (decide (-9223372036854775808 ≤ a + b ∧ a + b ≤ 9223372036854775807) = m) → toldF c m = addF a b := by
    intro m hm
    unfold addF
    rw [hm]
    cases m
    · rfl
    · rw [decide_eq_true_eq] at hm
      rw [show c = a + b by omega]
  by_cases h1 : a < 0 <;> by_cases h2 : b < 0 <;> by_cases h3 : c < 0
  all_goals
    first
    | (have T := Aside0.mk (key true (by rw [decide_eq_true_eq]; omega)); have e1 : decide (a < 0) = true := by simpa using h1)
    | (have T := Aside0.mk (key true (by rw [decide_eq_true_eq]; omega)); have e1 : decide (a < 0) = false := by simpa using h1)
    | (have T := Aside0.mk (key false (by rw [decide_eq_false_iff_not]; omega)); have e1 : decide (a < 0) = true := by simpa using h1)
    | (have T := Aside0.mk (key false (by rw [decide_eq_false_iff_not]; omega)); have e1 : decide (a < 0) = false := by simpa using h1)
    first
    | have e2 : decide (b < 0) = true := by simpa using h2
    | have e2 : decide (b < 0) = false := by simpa using h2
    first
    | have e3 : decide (c < 0) = true := by simpa using h3
    | have e3 : decide (c < 0) = false := by simpa using h3
    clear key hc2 h1 h2 h3 ha hb
    go_enter Try.func59, Try.ntmps59
    go_wp2_with fail
    refine (told_any c _ _).mono ?_
    rw [T.out]
    rintro e w' ⟨rfl, rfl⟩
    go_wp2_with fail
    go_ret2
    exact ⟨rfl, rfl⟩
set_option maxRecDepth 100000 in
theorem sub_any (a b : Int) (ha : isI64 a) (hb : isI64 b) (w : World) :
    Calls Try.prog 91 #[.int .i64 a, .int .i64 b] w fun e w' => e = .returned (.tuple #[.int .i64 (subF a b).1, .int .i64 (subF a b).2]) ∧ w = w' := by
  obtain ⟨c, hc⟩ : ∃ c, IntKind.i64.wrap (a - b) = c := ⟨_, rfl⟩
  have hc2 := hc
  rw [i64_wrap] at hc2
  have key : ∀ m : Bool, (decide (-9223372036854775808 ≤ a - b ∧ a - b ≤ 9223372036854775807) = m) → toldF c m = subF a b := by
    intro m hm
    unfold subF
    rw [hm]
    cases m
    · rfl
    · rw [decide_eq_true_eq] at hm
      rw [show c = a - b by omega]
  by_cases h1 : a < 0 <;> by_cases h2 : b < 0 <;> by_cases h3 : c < 0
  all_goals
    first
    | (have T := Aside0.mk (key true (by rw [decide_eq_true_eq]; omega)); have e1 : decide (a < 0) = true := by simpa using h1)
    | (have T := Aside0.mk (key true (by rw [decide_eq_true_eq]; omega)); have e1 : decide (a < 0) = false := by simpa using h1)
    | (have T := Aside0.mk (key false (by rw [decide_eq_false_iff_not]; omega)); have e1 : decide (a < 0) = true := by simpa using h1)
    | (have T := Aside0.mk (key false (by rw [decide_eq_false_iff_not]; omega)); have e1 : decide (a < 0) = false := by simpa using h1)
    first
    | have e2 : decide (b < 0) = true := by simpa using h2
    | have e2 : decide (b < 0) = false := by simpa using h2
    first
    | have e3 : decide (c < 0) = true := by simpa using h3
    | have e3 : decide (c < 0) = false := by simpa using h3
    clear key hc2 h1 h2 h3 ha hb
    go_enter Try.func91, Try.ntmps91
    go_wp2_with fail
    refine (told_any c _ _).mono ?_
    rw [T.out]
    rintro e w' ⟨rfl, rfl⟩
    go_wp2_with fail
    go_ret2
    exact ⟨rfl, rfl⟩
set_option maxRecDepth 100000 in
theorem neg_any (a : Int) (ha : isI64 a) (w : World) :
    Calls Try.prog 93 #[.int .i64 a] w fun e w' => e = .returned (.tuple #[.int .i64 (negF a).1, .int .i64 (negF a).2]) ∧ w = w' := by
  obtain ⟨c, hc⟩ : ∃ c, IntKind.i64.wrap (-a) = c := ⟨_, rfl⟩
  have hc2 := hc
  rw [i64_wrap] at hc2
  by_cases h1 : a = -9223372036854775808
  · have e1 : (a != -9223372036854775808) = false := by simpa using h1
    have T : Aside0 (toldF c false = negF a) := ⟨by unfold negF; rw [decide_eq_false (by simpa using h1)]; rfl⟩
    clear hc2 h1 ha
    go_enter Try.func93, Try.ntmps93
    go_wp2_with fail
    refine (told_any c _ _).mono ?_
    rw [T.out]
    rintro e w' ⟨rfl, rfl⟩
    go_wp2_with fail
    go_ret2
    exact ⟨rfl, rfl⟩
  · have e1 : (a != -9223372036854775808) = true := by simpa using h1
    have T : Aside0 (toldF c true = negF a) := ⟨by unfold negF; rw [decide_eq_true h1]; rw [show c = -a by omega]⟩
    clear hc2 h1 ha
    go_enter Try.func93, Try.ntmps93
    go_wp2_with fail
    refine (told_any c _ _).mono ?_
    rw [T.out]
    rintro e w' ⟨rfl, rfl⟩
    go_wp2_with fail
    go_ret2
    exact ⟨rfl, rfl⟩
set_option maxRecDepth 100000 in
theorem relu_any (a : Int) (w : World) :
    Calls Try.prog 90 #[.int .i64 a] w fun e w' => e = .returned (.tuple #[.int .i64 (reluF a).1, .int .i64 (reluF a).2]) ∧ w = w' := by
  go_enter Try.func90, Try.ntmps90
  go_wp2_with fail
  go_ret2
  exact ⟨rfl, rfl⟩
theorem told_q (n : Int) (b : Bool) (W : World) (m : Nat) :
    Calls Try.prog 103 #[.int .i64 n, .bool b] (W.drewN m) fun e w' => e = .returned (.tuple #[.int .i64 (toldF n b).1, .int .i64 (toldF n b).2]) ∧ ∃ m, w' = W.drewN m := quiet_own (told_any n b _)
theorem len_q (x : Int) (W : World) (m : Nat) (h0 : 0 ≤ x) (h1 : x < 18446744073709551616) :
    Calls Try.prog 120 #[.int .u64 x] (W.drewN m) fun e w' => e = .returned (.int .i64 (Lib.bitLen x.toNat : Nat)) ∧ ∃ m, w' = W.drewN m :=
  (Try.bits_Len64 x _ h0 (by omega)).mono fun e w' hh => ⟨hh.1, m, hh.2⟩
/-- the numbers that a shift by k makes of n -/
def shiftF (n k : Int) : Int × Int :=
  if k < 0 then (wrap64 (n / 2 ^ (min (-k) 63).toNat), 0)
  else toldF (wrap64 (IntKind.u64.wrap (n * 2 ^ (min k 63).toNat))) (decide (wrap64 ((Lib.bitLen n.toNat : Int) + k) < 64))
set_option maxRecDepth 100000 in
theorem shifted_any (n k : Int) (hn0 : 0 ≤ n) (hn1 : n < 18446744073709551616) (hk : isI64 k) (hk2 : k ≤ 1000000000000) (hk3 : -1000000000000 ≤ k) (w : World) :
    Calls Try.prog 113 #[.int .u64 n, .int .i64 k] w fun e w' => e = .returned (.tuple #[.int .i64 (shiftF n k).1, .int .i64 (shiftF n k).2]) ∧ Drawn0 w w' := by
  by_cases h : k < 0
  · have e1 : decide (k < 0) = true := by simpa using h
    go_enter Try.func113, Try.ntmps113
    go_wp2_with fail
    go_ret2
    exact ⟨tup_eq (by unfold shiftF; rw [if_pos h]) (by unfold shiftF; rw [if_pos h]), Drawn0.refl _⟩
  · have e1 : decide (k < 0) = false := by simpa using h
    go_enter Try.func113, Try.ntmps113
    go_wp2_with fail
    go_quiet (first | (go_at_call 120; exact len_q _ _ _ hn0 hn1) | (go_at_call 103; exact told_q _ _ _ _))
    go_wp2_with fail
    go_ret2
    exact ⟨tup_eq (by unfold shiftF; rw [if_neg (by omega)]) (by unfold shiftF; rw [if_neg (by omega)]), ⟨⟨_, rfl⟩⟩⟩
def powN (a : Int) : Int := IntKind.u64.wrap (wrap64 (4294967296 + bits .and .i64 a 4294967295))
def powF (a : Int) : Int × Int := shiftF (powN a) (a / 4294967296)
set_option maxRecDepth 100000 in
theorem pow_any (a : Int) (ha : isI64 a) (w : World) :
    Calls Try.prog 94 #[.int .i64 a] w fun e w' => e = .returned (.tuple #[.int .i64 (powF a).1, .int .i64 (powF a).2]) ∧ Drawn0 w w' := by
  have HA := Aside0.mk ha
  clear ha
  go_enter Try.func94, Try.ntmps94
  go_wp2_with fail
  refine (shifted_any (powN a) (a / 4294967296) (by unfold powN; rw [u64_wrap]; omega) (by unfold powN; rw [u64_wrap]; omega) (by have := HA.out; unfold isI64 at *; omega) (by have := HA.out; unfold isI64 at *; omega) (by have := HA.out; unfold isI64 at *; omega) _).mono ?_
  rintro e w' ⟨rfl, ⟨nd, rfl⟩⟩
  go_wp2_with fail
  go_ret2
  exact ⟨rfl, ⟨⟨nd, rfl⟩⟩⟩
end Go.Proofs.Ytpnigmcpifilmaa.P
