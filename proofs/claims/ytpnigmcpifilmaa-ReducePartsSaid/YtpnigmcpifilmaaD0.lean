/- Contracts of the sides of a tensor: reduce.lane.at, reduce.lanes. -/
import Derived.Test.YtpnigmcpifilmaaA17
import Derived.Deep.QuietTactic
import Derived.BigQuiet
import Derived.Deep.RegionHeld3
namespace Go.Proofs.Ytpnigmcpifilmaa.P
open Go.RowKit Go.Shelf Go.Proofs.YtpnigmcpifilmaaW.PrintWords Go.Proofs.YtpnigmcpifilmaaW.PrintLast Go.Proofs.YtpnigmcpifilmaaW.PrintMore
set_option linter.unusedVariables false
set_option linter.unusedSimpArgs false
def laneAt (s b p i : Nat) : Nat := (p / b * s + i) * b + p % b
theorem laneAt_bd {s b p i : Nat} (hs : s ≤ 4096) (hb : b ≤ 4096) (hb1 : 1 ≤ b) (hp : p ≤ 4096) (hi : i ≤ 4096) : p / b ≤ 4096 ∧ p / b * s ≤ 16777216 ∧ (p / b * s + i) * b ≤ 68736253952 ∧ p % b ≤ 4096 := by
  have h1 : p / b ≤ 4096 := Nat.le_trans (Nat.div_le_self _ _) hp
  have h2 : p / b * s ≤ 4096 * 4096 := Nat.mul_le_mul h1 hs
  have h3 : (p / b * s + i) * b ≤ (4096 * 4096 + 4096) * 4096 := Nat.mul_le_mul (by omega) hb
  have h4 : p % b ≤ p := Nat.mod_le _ _
  exact ⟨h1, by omega, by omega, by omega⟩
theorem w64 (n : Int) (h : -9223372036854775808 ≤ n ∧ n ≤ 9223372036854775807) : wrap64 n = n := by unfold wrap64; omega
theorem at_any (a s b p i : Nat) (w : World) (hs : s ≤ 4096) (hb : b ≤ 4096) (hb1 : 1 ≤ b) (hp : p ≤ 4096) (hi : i ≤ 4096) :
    Calls Try.prog 73 #[.agg #[.int .i64 a, .int .i64 s, .int .i64 b], .int .i64 p, .int .i64 i] w fun e w' => e = .returned (.int .i64 (laneAt s b p i : Nat)) ∧ Below w.heap.size w w' := by
  obtain ⟨b1, b2, b3, b4⟩ := laneAt_bd hs hb hb1 hp hi
  have e1 : (p : Int).tdiv (b : Int) = ((p / b : Nat) : Int) := by rw [Int.tdiv_eq_ediv_of_nonneg (by omega)]; simp
  have e2 : (p : Int) / (b : Int) = ((p / b : Nat) : Int) := by simp
  have e3 : (p : Int).tmod (b : Int) = ((p % b : Nat) : Int) := by rw [Int.tmod_eq_emod_of_nonneg (by omega)]; simp
  have e4 : (p : Int) % (b : Int) = ((p % b : Nat) : Int) := by simp
  have hz : ¬ ((b : Int) = 0) := by omega
  have hz' : ((b : Int) == 0) = false := by simpa using hz
  unfold laneAt
  obtain ⟨x1, h1⟩ : ∃ x, p / b = x := ⟨_, rfl⟩
  obtain ⟨x5, h5⟩ : ∃ x, p % b = x := ⟨_, rfl⟩
  rw [h1] at e1 e2 b1 b2 b3 ⊢
  rw [h5] at e3 e4 b4 ⊢
  have E := Aside0.mk (And.intro e1 (And.intro e2 (And.intro e3 e4)))
  clear h1 h5 e1 e2 e3 e4
  have K : Aside0 (wrap64 (wrap64 (wrap64 (wrap64 (wrap64 (x1 : Int) * s) + i) * b) + (x5 : Int)) = ((x1 * s + i) * b + x5 : Nat)) := ⟨by
    rw [w64 (x1 : Int) (by omega), show (x1 : Int) * (s : Int) = ((x1 * s : Nat) : Int) by simp, w64 ((x1 * s : Nat) : Int) (by omega),
      show ((x1 * s : Nat) : Int) + (i : Int) = ((x1 * s + i : Nat) : Int) by simp, w64 ((x1 * s + i : Nat) : Int) (by omega),
      show ((x1 * s + i : Nat) : Int) * (b : Int) = (((x1 * s + i) * b : Nat) : Int) by simp, w64 (((x1 * s + i) * b : Nat) : Int) (by omega),
      show (((x1 * s + i) * b : Nat) : Int) + (x5 : Int) = (((x1 * s + i) * b + x5 : Nat) : Int) by simp, w64 (((x1 * s + i) * b + x5 : Nat) : Int) (by omega)]⟩
  obtain ⟨x6, h6⟩ : ∃ x, (x1 * s + i) * b + x5 = x := ⟨_, rfl⟩
  rw [h6] at K ⊢
  obtain ⟨e1, e2, e3, e4⟩ := E.out
  clear h6 b1 b2 b3 b4
  go_enter Try.func73, Try.ntmps73
  go_wp2_with fail
  go_quiet (fail)
  go_wp2_with fail
  go_ret
  refine ⟨ret_val (congrArg (Value.int .i64) K.out), pw_below_drewN (below_alloc (Below.refl _ _) _) _⟩
end Go.Proofs.Ytpnigmcpifilmaa.P
