/- Contracts of bits.Div64 and fix.Div. -/
import Derived.Test.YtpnigmcpifilmaaA1
import Derived.Test.YtpnigmcpifilmaaShelf
import Derived.Outline
import Derived.Deep.RegionWith
import Derived.Deep.CutBlock
import Derived.Lib.ItoaNum
namespace Go.Proofs.Ytpnigmcpifilmaa.P
open Go.RowKit Go.Proofs.YtpnigmcpifilmaaW.PrintWords Go.Proofs.YtpnigmcpifilmaaW.PrintLast Go.Proofs.YtpnigmcpifilmaaW.PrintMore
set_option linter.unusedVariables false
set_option linter.unusedSimpArgs false
theorem lz_any (x : Int) (w : World) (h0 : 0 ≤ x) (h1 : x ≤ 18446744073709551615) :
    Calls Try.prog 119 #[.int .u64 x] w fun e w' => e = .returned (.int .i64 (64 - (Lib.bitLen x.toNat : Int))) ∧ w = w' :=
  (Try.bits_LeadingZeros64 x w h0 h1).mono fun e w' hh => ⟨hh.1, hh.2.symm⟩
theorem len_lt (y : Nat) (h : 0 < y) (h2 : y < 18446744073709551616) : 2 ^ (Lib.bitLen y - 1) ≤ y ∧ y < 2 ^ Lib.bitLen y ∧ 0 < Lib.bitLen y := by
  have := Lib.bitLenAux_bounds 64 y (by omega) (by omega)
  exact ⟨this.2.1, this.2.2, this.1⟩
/-- One step of the long division: what the loop keeps. -/
def StepInv (U u1 v1 v0 q r : Nat) : Prop :=
  q * v1 + r = U ∧ r < 4294967296 ∧ (U * 4294967296 + u1) / (v1 * 4294967296 + v0) ≤ q ∧ q ≤ 4294967297
theorem step_ok (U u1 v1 v0 : Nat) (h1 : 2147483648 ≤ v1) (h2 : v1 < 4294967296) (h3 : v0 < 4294967296) (h4 : u1 < 4294967296) (h5 : U < v1 * 4294967296 + v0) :
    (U * 4294967296 + u1) / (v1 * 4294967296 + v0) < 4294967296 := by
  rw [Nat.div_lt_iff_lt_mul (by omega)]
  omega
theorem step_start (U u1 v1 v0 : Nat) (h1 : 2147483648 ≤ v1) (h2 : v1 < 4294967296) (h3 : v0 < 4294967296) (h4 : u1 < 4294967296) (h5 : U < v1 * 4294967296 + v0) :
    StepInv U u1 v1 v0 (U / v1) (U % v1) := by
  have e := Nat.div_add_mod U v1
  have l := Nat.mod_lt U (by omega : v1 > 0)
  refine ⟨by rw [Nat.mul_comm]; exact e, by omega, ?_, ?_⟩
  · rw [Nat.div_le_iff_le_mul_add_pred (by omega)]
    have : (v1 * 4294967296 + v0) * (U / v1) = 4294967296 * (v1 * (U / v1)) + v0 * (U / v1) := by grind
    rw [this]
    have := Nat.zero_le (v0 * (U / v1))
    omega
  · have : U / v1 < 4294967298 := by
      rw [Nat.div_lt_iff_lt_mul (by omega)]
      omega
    omega
theorem step_false (U u1 v1 v0 q r : Nat) (h1 : 2147483648 ≤ v1) (h : StepInv U u1 v1 v0 q r) (hq : q < 4294967296) (hv : q * v0 ≤ 4294967296 * r + u1) :
    q = (U * 4294967296 + u1) / (v1 * 4294967296 + v0) := by
  obtain ⟨a, b, c, d⟩ := h
  refine Nat.le_antisymm ?_ c
  rw [Nat.le_div_iff_mul_le (by omega), ← a]
  have : q * (v1 * 4294967296 + v0) = 4294967296 * (q * v1) + q * v0 := by grind
  rw [this]
  omega
theorem step_true (U u1 v1 v0 q r : Nat) (h1 : 2147483648 ≤ v1) (h2 : v1 < 4294967296) (h3 : v0 < 4294967296) (h4 : u1 < 4294967296) (h5 : U < v1 * 4294967296 + v0)
    (h : StepInv U u1 v1 v0 q r) (hv : 4294967296 ≤ q ∨ 4294967296 * r + u1 < q * v0) :
    1 ≤ q ∧ (q - 1) * v1 + (r + v1) = U ∧ (U * 4294967296 + u1) / (v1 * 4294967296 + v0) ≤ q - 1 ∧ q - 1 ≤ 4294967296 := by
  have k := step_ok U u1 v1 v0 h1 h2 h3 h4 h5
  obtain ⟨a, b, c, d⟩ := h
  generalize hQ : (U * 4294967296 + u1) / (v1 * 4294967296 + v0) = Q at *
  have lt : Q < q := by
    rcases hv with hv | hv
    · omega
    · rw [← hQ, Nat.div_lt_iff_lt_mul (by omega), ← a]
      have : q * (v1 * 4294967296 + v0) = 4294967296 * (q * v1) + q * v0 := by grind
      rw [this]
      omega
  obtain ⟨p, rfl⟩ : ∃ p, q = p + 1 := ⟨q - 1, by omega⟩
  have : (p + 1) * v1 = p * v1 + v1 := by grind
  refine ⟨by omega, ?_, by omega, by omega⟩
  rw [Nat.add_sub_cancel]; omega
theorem step_over (U u1 v1 v0 q r : Nat) (h1 : 2147483648 ≤ v1) (h3 : v0 < 4294967296)
    (a : q * v1 + r = U) (c : (U * 4294967296 + u1) / (v1 * 4294967296 + v0) ≤ q) (d : q ≤ 4294967296) (hr : 4294967296 ≤ r) :
    q = (U * 4294967296 + u1) / (v1 * 4294967296 + v0) := by
  refine Nat.le_antisymm ?_ c
  rw [Nat.le_div_iff_mul_le (by omega), ← a]
  have : q * (v1 * 4294967296 + v0) = 4294967296 * (q * v1) + q * v0 := by grind
  rw [this]
  have : q * v0 ≤ 4294967296 * v0 := Nat.mul_le_mul_right _ d
  omega
theorem two_steps (U a b Y Q R : Nat) (hQ : Q = (U * 4294967296 + a) / Y) (hR : R = (U * 4294967296 + a) % Y) :
    (U * 18446744073709551616 + (a * 4294967296 + b)) / Y = Q * 4294967296 + (R * 4294967296 + b) / Y ∧
    (U * 18446744073709551616 + (a * 4294967296 + b)) % Y = (R * 4294967296 + b) % Y := by
  have e := Nat.div_add_mod (U * 4294967296 + a) Y
  rw [← hQ, ← hR] at e
  have : U * 18446744073709551616 + (a * 4294967296 + b) = (R * 4294967296 + b) + Y * (Q * 4294967296) := by
    have : Y * (Q * 4294967296) = (Y * Q) * 4294967296 := by grind
    omega
  rw [this, Nat.add_mul_mod_self_left]
  rcases Nat.eq_zero_or_pos Y with h | h
  · subst h; simp at hQ; simp [hQ]
  · rw [Nat.add_mul_div_left _ _ h]; exact ⟨by omega, rfl⟩
theorem u64_or_sum (a b k : Nat) (ha : a % 2 ^ k = 0) (hb : b < 2 ^ k) (h : a + b < 18446744073709551616) : bits .or .u64 (a : Int) (b : Int) = ((a + b : Nat) : Int) := by
  rw [bits_join .u64 64 (by decide) (fun n h0 h1 => u64_in n ⟨h0, by omega⟩) k (a : Int) (b : Int) (by omega) (by exact_mod_cast ha) (by omega) (by omega) (by exact_mod_cast hb) (by omega)]
  omega
/-- What the shifted numbers are: read once, for the walk. -/
theorem div64_pre (hi lo y s : Nat) (h1 : hi < y) (h2 : y < 18446744073709551616) (l1 : lo < 18446744073709551616) (hs : s = 64 - Lib.bitLen y) :
    s ≤ 63 ∧ (64 - (Lib.bitLen (y : Int).toNat : Int)) = (s : Int) ∧ 9223372036854775808 ≤ y * 2 ^ s ∧ y * 2 ^ s < 18446744073709551616 ∧
    hi * 2 ^ s < 18446744073709551616 ∧ lo / 2 ^ (64 - s) < 2 ^ s ∧ hi * 2 ^ s + lo / 2 ^ (64 - s) < y * 2 ^ s ∧
    (hi * 18446744073709551616 + lo) * 2 ^ s = (hi * 2 ^ s + lo / 2 ^ (64 - s)) * 18446744073709551616 + lo * 2 ^ s % 18446744073709551616 := by
  have ln := len_lt y (by omega) h2
  have ll : Lib.bitLen y ≤ 64 := Lib.bitLen_le y 64 (by omega) (by omega)
  obtain ⟨t, ht⟩ : ∃ t, Lib.bitLen y = t := ⟨_, rfl⟩
  rw [ht] at ln ll hs
  have e64 : 2 ^ (64 - s) * 2 ^ s = 18446744073709551616 := by rw [← Nat.pow_add, show 64 - s + s = 64 by omega]
  have p := Nat.two_pow_pos s
  have p2 := Nat.two_pow_pos (64 - s)
  have a1 : 9223372036854775808 ≤ y * 2 ^ s := by
    have := Nat.mul_le_mul_right (2 ^ s) ln.1
    rw [← Nat.pow_add, show t - 1 + s = 63 by omega] at this
    omega
  have a2 : y * 2 ^ s < 18446744073709551616 := by
    have := Nat.mul_lt_mul_of_pos_right ln.2.1 p
    rw [← Nat.pow_add, show t + s = 64 by omega] at this
    omega
  have L : lo / 2 ^ (64 - s) < 2 ^ s := by rw [Nat.div_lt_iff_lt_mul p2, Nat.mul_comm, e64]; exact l1
  have ax : (hi + 1) * 2 ^ s ≤ y * 2 ^ s := Nat.mul_le_mul_right _ h1
  have ay : (hi + 1) * 2 ^ s = hi * 2 ^ s + 2 ^ s := by grind
  refine ⟨by omega, by rw [Int.toNat_natCast, ht]; omega, a1, a2, by omega, L, by omega, ?_⟩
  have d1 : lo / 2 ^ (64 - s) = lo * 2 ^ s / 18446744073709551616 := by
    rw [← e64, Nat.mul_div_mul_right _ _ p]
  rw [d1]
  have e1 := Nat.div_add_mod (lo * 2 ^ s) 18446744073709551616
  have e2 : (hi * 18446744073709551616 + lo) * 2 ^ s = hi * 2 ^ s * 18446744073709551616 + lo * 2 ^ s := by grind
  rw [e2]
  generalize lo * 2 ^ s = x at *
  generalize hi * 2 ^ s = z at *
  clear e2 L ax ay a1 a2 d1 e64 p p2
  omega
set_option maxRecDepth 100000 in
theorem div64_big (hi lo y : Nat) (h00 : 0 < hi) (h1 : hi < y) (h2 : y < 18446744073709551616) (l1 : lo < 18446744073709551616) (w : World) :
    Calls Try.prog 112 #[.int .u64 hi, .int .u64 lo, .int .u64 y] w fun e w' => e = .returned (.tuple #[.int .u64 (((hi * 18446744073709551616 + lo) / y : Nat) : Int), .int .u64 (((hi * 18446744073709551616 + lo) % y : Nat) : Int)]) ∧ w = w' := by
  have c1 : ((y : Int) == 0) = false := by simp; omega
  have c2 : decide ((y : Int) ≤ (hi : Int)) = false := by simp; omega
  have c2' : decide (y ≤ hi) = false := by simp; omega
  have c3 : ((hi : Int) == 0) = false := by simp; omega
  obtain ⟨s, hs⟩ : ∃ s : Nat, s = 64 - Lib.bitLen y := ⟨_, rfl⟩
  obtain ⟨hs63, ez, Y1, Y2, H1, L1, UY, sum⟩ := div64_pre hi lo y s h1 h2 l1 hs
  obtain ⟨Y, hY⟩ : ∃ Y : Nat, Y = y * 2 ^ s := ⟨_, rfl⟩
  obtain ⟨H, hH⟩ : ∃ H : Nat, H = hi * 2 ^ s := ⟨_, rfl⟩
  obtain ⟨L, hL⟩ : ∃ L : Nat, L = lo / 2 ^ (64 - s) := ⟨_, rfl⟩
  obtain ⟨M, hM⟩ : ∃ M : Nat, M = lo * 2 ^ s % 18446744073709551616 := ⟨_, rfl⟩
  have e1 : IntKind.u64.wrap ((y : Int) * 2 ^ s) = (Y : Int) := by
    have : ((y : Int) * 2 ^ s) = (Y : Int) := by rw [hY]; simp
    rw [this, u64_in _ ⟨by omega, by omega⟩]
  have e4 : IntKind.u64.wrap ((hi : Int) * 2 ^ s) = (H : Int) := by
    have : ((hi : Int) * 2 ^ s) = (H : Int) := by rw [hH]; simp
    rw [this, u64_in _ ⟨by omega, by omega⟩]
  have e5 : IntKind.u64.wrap ((lo : Int) * 2 ^ s) = (M : Int) := by
    have : ((lo : Int) * 2 ^ s) = ((lo * 2 ^ s : Nat) : Int) := by simp
    rw [this, u64_wrap, hM]; omega
  have e6 : ((lo : Int) / 2 ^ (64 - s)) = (L : Int) := by rw [hL]; simp
  have hHm : H % 2 ^ s = 0 := by rw [hH]; exact Nat.mul_mod_left _ _
  have r1 : (hi * 18446744073709551616 + lo) / y = ((hi * 18446744073709551616 + lo) * 2 ^ s) / Y := by rw [hY, Nat.mul_div_mul_right _ _ (Nat.two_pow_pos s)]
  have r2 : (hi * 18446744073709551616 + lo) % y = (((hi * 18446744073709551616 + lo) * 2 ^ s) % Y) / 2 ^ s := by rw [hY, Nat.mul_mod_mul_right, Nat.mul_div_cancel _ (Nat.two_pow_pos s)]
  rw [sum] at r1 r2
  rw [← hY, ← hH, ← hL] at UY
  rw [← hH, ← hL, ← hM] at r1 r2
  rw [← hY] at Y1 Y2
  rw [← hH] at H1
  rw [← hL] at L1
  have e7 := u64_or_sum H L s hHm L1 (by omega)
  obtain ⟨U, hU⟩ : ∃ U : Nat, U = H + L := ⟨_, rfl⟩
  rw [← hU] at r1 r2 UY e7
  have M1 : M < 18446744073709551616 := by rw [hM]; omega
  obtain ⟨v1, hv1⟩ : ∃ v : Nat, v = Y / 4294967296 := ⟨_, rfl⟩
  obtain ⟨v0, hv0⟩ : ∃ v : Nat, v = Y % 4294967296 := ⟨_, rfl⟩
  obtain ⟨a, ha⟩ : ∃ v : Nat, v = M / 4294967296 := ⟨_, rfl⟩
  obtain ⟨b, hb⟩ : ∃ v : Nat, v = M % 4294967296 := ⟨_, rfl⟩
  have e2 : (Y : Int) / 4294967296 = (v1 : Int) := by omega
  have e3 : bits .and .u64 (Y : Int) 4294967295 = (v0 : Int) := by rw [u64_and32 _ (by omega) (by omega)]; omega
  have e8 : (M : Int) / 4294967296 = (a : Int) := by omega
  have e9 : bits .and .u64 (M : Int) 4294967295 = (b : Int) := by rw [u64_and32 _ (by omega) (by omega)]; omega
  rw [show M = a * 4294967296 + b by omega] at r1 r2
  have Yv : Y = v1 * 4294967296 + v0 := by omega
  obtain ⟨Q1, hQ1⟩ : ∃ Q : Nat, Q = (U * 4294967296 + a) / Y := ⟨_, rfl⟩
  obtain ⟨R1, hR1⟩ : ∃ Q : Nat, Q = (U * 4294967296 + a) % Y := ⟨_, rfl⟩
  have ts := two_steps U a b Y Q1 R1 hQ1 hR1
  rw [ts.1] at r1
  rw [ts.2] at r2
  have R1Y : R1 < Y := by rw [hR1]; exact Nat.mod_lt _ (by omega)
  have s1 := step_start U a v1 v0 (by omega) (by omega) (by omega) (by omega) (by omega)
  have s2 := step_start R1 b v1 v0 (by omega) (by omega) (by omega) (by omega) (by omega)
  have k1 := step_ok U a v1 v0 (by omega) (by omega) (by omega) (by omega) (by omega)
  have k2 := step_ok R1 b v1 v0 (by omega) (by omega) (by omega) (by omega) (by omega)
  obtain ⟨Q0, hQ0⟩ : ∃ Q : Nat, Q = (R1 * 4294967296 + b) / Y := ⟨_, rfl⟩
  obtain ⟨R0, hR0⟩ : ∃ Q : Nat, Q = (R1 * 4294967296 + b) % Y := ⟨_, rfl⟩
  rw [← Yv] at k1 k2
  rw [← hQ1] at k1
  rw [← hQ0] at k2 r1
  rw [← hR0] at r2
  have aF := Aside0.mk (And.intro (show 2147483648 ≤ v1 by omega) (And.intro (show v1 < 4294967296 by omega) (And.intro (show v0 < 4294967296 by omega) (And.intro (show a < 4294967296 by omega) (show U < v1 * 4294967296 + v0 by omega)))))
  have bF := Aside0.mk (And.intro (show 2147483648 ≤ v1 by omega) (And.intro (show v1 < 4294967296 by omega) (And.intro (show v0 < 4294967296 by omega) (And.intro (show b < 4294967296 by omega) (show R1 < v1 * 4294967296 + v0 by omega)))))
  obtain ⟨p, hp⟩ : ∃ q : Nat, q = U / v1 := ⟨_, rfl⟩
  obtain ⟨t, ht⟩ : ∃ q : Nat, q = U % v1 := ⟨_, rfl⟩
  rw [← hp, ← ht] at s1
  obtain ⟨p2, hp2⟩ : ∃ q : Nat, q = R1 / v1 := ⟨_, rfl⟩
  obtain ⟨t2, ht2⟩ : ∃ q : Nat, q = R1 % v1 := ⟨_, rfl⟩
  rw [← hp2, ← ht2] at s2
  have Q1E : Aside0 (Q1 = (U * 4294967296 + a) / (v1 * 4294967296 + v0)) := ⟨by rw [hQ1, Yv]⟩
  have Q0E : Aside0 (Q0 = (R1 * 4294967296 + b) / (v1 * 4294967296 + v0)) := ⟨by rw [hQ0, Yv]⟩
  have S1 := Aside0.mk s1
  have S2 := Aside0.mk s2
  obtain ⟨T1, hT1⟩ : ∃ q : Nat, q = p * v1 := ⟨_, rfl⟩
  obtain ⟨T2, hT2⟩ : ∃ q : Nat, q = p2 * v1 := ⟨_, rfl⟩
  have y1 : IntKind.u64.wrap ((U : Int).tdiv (v1 : Int)) = (p : Int) := by
    have : (U : Int).tdiv (v1 : Int) = (p : Int) := by rw [hp]; rfl
    have : p ≤ U := by rw [hp]; exact Nat.div_le_self _ _
    rw [‹(U : Int).tdiv (v1 : Int) = (p : Int)›, u64_in _ ⟨by omega, by omega⟩]
  have y1' : IntKind.u64.wrap ((U : Int) / (v1 : Int)) = (p : Int) := by rw [← Int.tdiv_eq_ediv_of_nonneg (by omega)]; exact y1
  have y2 : IntKind.u64.wrap ((p : Int) * (v1 : Int)) = (T1 : Int) := by
    have : (p : Int) * (v1 : Int) = (T1 : Int) := by rw [hT1]; simp
    have := s1.1
    rw [‹(p : Int) * (v1 : Int) = (T1 : Int)›, u64_in _ ⟨by omega, by omega⟩]
  have y3 : IntKind.u64.wrap ((U : Int) - (T1 : Int)) = (t : Int) := by have := s1.1; rw [u64_in _ ⟨by omega, by omega⟩]; omega
  have z1 : IntKind.u64.wrap ((R1 : Int).tdiv (v1 : Int)) = (p2 : Int) := by
    have : (R1 : Int).tdiv (v1 : Int) = (p2 : Int) := by rw [hp2]; rfl
    have : p2 ≤ R1 := by rw [hp2]; exact Nat.div_le_self _ _
    rw [‹(R1 : Int).tdiv (v1 : Int) = (p2 : Int)›, u64_in _ ⟨by omega, by omega⟩]
  have z1' : IntKind.u64.wrap ((R1 : Int) / (v1 : Int)) = (p2 : Int) := by rw [← Int.tdiv_eq_ediv_of_nonneg (by omega)]; exact z1
  have z2 : IntKind.u64.wrap ((p2 : Int) * (v1 : Int)) = (T2 : Int) := by
    have : (p2 : Int) * (v1 : Int) = (T2 : Int) := by rw [hT2]; simp
    have := s2.1
    rw [‹(p2 : Int) * (v1 : Int) = (T2 : Int)›, u64_in _ ⟨by omega, by omega⟩]
  have z3 : IntKind.u64.wrap ((R1 : Int) - (T2 : Int)) = (t2 : Int) := by have := s2.1; rw [u64_in _ ⟨by omega, by omega⟩]; omega
  have cv : ((v1 : Int) == 0) = false := by simp; omega
  have ecv : v1 ≠ 0 := by omega
  have G := Aside0.mk (And.intro r1 (And.intro r2 (And.intro hQ1 (And.intro hR1 (And.intro hQ0 (And.intro hR0 (And.intro k1 k2)))))))
  clear hs hY hH hL hM hHm r1 r2 hU hv1 hv0 ha hb hQ1 hR1 hQ0 hR0 ts k1 k2 s1 s2 hp ht hp2 ht2 hT1 hT2 Yv sum
  go_enter Try.func112, Try.ntmps112
  go_wp2_with fail
  refine (lz_any (y : Int) _ (by omega) (by omega)).mono ?_
  rw [ez]
  clear ez
  rintro e w' ⟨rfl, rfl⟩
  go_upto_block 0 with fail
  go_cut [15] (fun qv wr => qv = .int .u64 Q1 ∧ w = wr)
  case first =>
    go_wp2_with fail
    go_loopg [15, 16] p (fun g qv rv wr => ∃ q r : Nat, wr = w ∧ qv = .int .u64 q ∧ rv = .int .u64 r ∧ Aside0 (g = q ∧ StepInv U a v1 v0 q r))
    case atStart => exact ⟨_, _, rfl, rfl, rfl, ⟨rfl, S1.out⟩⟩
    case round =>
      obtain ⟨q, r, rfl, rfl, rfl, hk⟩ := hrel
      have hg := hk.out.1
      have hk2 := hk.out.2
      obtain ⟨F1, F2, F3, F4, F5⟩ := aF.out
      have hr0 : r < 4294967296 := hk2.2.1
      have hq0 : q ≤ 4294967297 := hk2.2.2.2
      have HK := Aside0.mk (And.intro hg hk2)
      clear hk
      by_cases hv : 4294967296 ≤ q ∨ 4294967296 * r + a < q * v0
      · have st := step_true U a v1 v0 q r F1 F2 F3 F4 F5 hk2 hv
        have x1 : IntKind.u64.wrap ((q : Int) - 1) = ((q - 1 : Nat) : Int) := by rw [u64_in _ ⟨by omega, by omega⟩]; omega
        have x2 : IntKind.u64.wrap ((r : Int) + (v1 : Int)) = ((r + v1 : Nat) : Int) := by rw [u64_in _ ⟨by omega, by omega⟩]; omega
        obtain ⟨q', hq'⟩ : ∃ q' : Nat, q' = q - 1 := ⟨_, rfl⟩
        obtain ⟨r', hr'⟩ : ∃ q' : Nat, q' = r + v1 := ⟨_, rfl⟩
        rw [← hq'] at st x1
        rw [← hr'] at st x2
        have FIN : Aside0 (4294967296 ≤ r' → (q' : Nat) = Q1) := ⟨fun h => by rw [Q1E.out]; exact step_over U a v1 v0 q' r' F1 F3 st.2.1 st.2.2.1 st.2.2.2 h⟩
        have RND : Aside0 (r' < 4294967296 → q' < q ∧ StepInv U a v1 v0 q' r') := ⟨fun h => ⟨by omega, st.2.1, h, st.2.2.1, by omega⟩⟩
        have HQ := Aside0.mk hq'
        by_cases hb : 4294967296 ≤ q
        · have c1 : decide ((4294967296 : Int) ≤ (q : Int)) = true := by simp; omega
          have c2 : decide (4294967296 ≤ q) = true := by simpa using hb
          by_cases hx : 4294967296 ≤ r'
          · have d1 : decide ((4294967296 : Int) ≤ (r' : Int)) = true := by simp; omega
            have d2 : decide (4294967296 ≤ r') = true := by simpa using hx
            have HX := Aside0.mk hx
            clear hx hb hv hk2 st hq' hr' hg F1 F2 F3 F4 F5 hr0 hq0
            go_wp2_with fail
            go_meet
            exact ⟨by rw [FIN.out HX.out], rfl⟩
          · have d1 : decide ((4294967296 : Int) ≤ (r' : Int)) = false := by simp; omega
            have d2 : decide (4294967296 ≤ r') = false := by simpa using hx
            have HX := Aside0.mk hx
            clear hx hb hv hk2 st hq' hr' hg F1 F2 F3 F4 F5 hr0 hq0
            go_wp2_with fail
            go_roundg q'
            case measure => have := HK.out.1; have := (RND.out (by have := HX.out; omega)).1; omega
            case rel => exact ⟨q', r', rfl, rfl, rfl, ⟨rfl, (RND.out (by have := HX.out; omega)).2⟩⟩
        · have c1 : decide ((4294967296 : Int) ≤ (q : Int)) = false := by simp; omega
          have c2 : decide (4294967296 ≤ q) = false := by simpa using hb
          have m1 : q * v0 < 18446744073709551616 := by
            have : q * v0 ≤ 4294967295 * v0 := Nat.mul_le_mul_right _ (by omega)
            omega
          obtain ⟨P, hP⟩ : ∃ P : Nat, P = q * v0 := ⟨_, rfl⟩
          obtain ⟨W0, hW0⟩ : ∃ P : Nat, P = 4294967296 * r := ⟨_, rfl⟩
          obtain ⟨W1, hW1⟩ : ∃ P : Nat, P = W0 + a := ⟨_, rfl⟩
          have g1 : IntKind.u64.wrap ((q : Int) * (v0 : Int)) = (P : Int) := by
            have : (q : Int) * (v0 : Int) = (P : Int) := by rw [hP]; simp
            rw [this, u64_in _ ⟨by omega, by omega⟩]
          have g2 : IntKind.u64.wrap (4294967296 * (r : Int)) = (W0 : Int) := by rw [u64_in _ ⟨by omega, by omega⟩]; omega
          have g3 : IntKind.u64.wrap ((W0 : Int) + (a : Int)) = (W1 : Int) := by rw [u64_in _ ⟨by omega, by omega⟩]; omega
          have cc : W1 < P := by omega
          have g4 : decide ((W1 : Int) < (P : Int)) = true := by simp; omega
          have g5 : decide (W1 < P) = true := by simpa using cc
          by_cases hx : 4294967296 ≤ r'
          · have d1 : decide ((4294967296 : Int) ≤ (r' : Int)) = true := by simp; omega
            have d2 : decide (4294967296 ≤ r') = true := by simpa using hx
            have HX := Aside0.mk hx
            clear hx hb hv hk2 st hq' hr' hg F1 F2 F3 F4 F5 hr0 hq0 cc hP hW0 hW1 m1
            go_wp2_with fail
            go_meet
            exact ⟨by rw [FIN.out HX.out], rfl⟩
          · have d1 : decide ((4294967296 : Int) ≤ (r' : Int)) = false := by simp; omega
            have d2 : decide (4294967296 ≤ r') = false := by simpa using hx
            have HX := Aside0.mk hx
            clear hx hb hv hk2 st hq' hr' hg F1 F2 F3 F4 F5 hr0 hq0 cc hP hW0 hW1 m1
            go_wp2_with fail
            go_roundg q'
            case measure => have := HK.out.1; have := (RND.out (by have := HX.out; omega)).1; omega
            case rel => exact ⟨q', r', rfl, rfl, rfl, ⟨rfl, (RND.out (by have := HX.out; omega)).2⟩⟩
      · have hb : ¬ 4294967296 ≤ q := fun h => hv (Or.inl h)
        have hw : ¬ 4294967296 * r + a < q * v0 := fun h => hv (Or.inr h)
        have FIN : Aside0 ((q : Nat) = Q1) := ⟨by rw [Q1E.out]; exact step_false U a v1 v0 q r F1 hk2 (by omega) (by omega)⟩
        have c1 : decide ((4294967296 : Int) ≤ (q : Int)) = false := by simp; omega
        have c2 : decide (4294967296 ≤ q) = false := by simpa using hb
        have m1 : q * v0 < 18446744073709551616 := by
          have : q * v0 ≤ 4294967295 * v0 := Nat.mul_le_mul_right _ (by omega)
          omega
        obtain ⟨P, hP⟩ : ∃ P : Nat, P = q * v0 := ⟨_, rfl⟩
        obtain ⟨W0, hW0⟩ : ∃ P : Nat, P = 4294967296 * r := ⟨_, rfl⟩
        obtain ⟨W1, hW1⟩ : ∃ P : Nat, P = W0 + a := ⟨_, rfl⟩
        have g1 : IntKind.u64.wrap ((q : Int) * (v0 : Int)) = (P : Int) := by
          have : (q : Int) * (v0 : Int) = (P : Int) := by rw [hP]; simp
          rw [this, u64_in _ ⟨by omega, by omega⟩]
        have g2 : IntKind.u64.wrap (4294967296 * (r : Int)) = (W0 : Int) := by rw [u64_in _ ⟨by omega, by omega⟩]; omega
        have g3 : IntKind.u64.wrap ((W0 : Int) + (a : Int)) = (W1 : Int) := by rw [u64_in _ ⟨by omega, by omega⟩]; omega
        have cc : ¬ W1 < P := by omega
        have g4 : decide ((W1 : Int) < (P : Int)) = false := by simp; omega
        have g5 : decide (W1 < P) = false := by simpa using cc
        clear hb hw hv hk2 hg F1 F2 F3 F4 F5 hr0 hq0 cc hP hW0 hW1 m1
        go_wp2_with fail
        go_meet
        exact ⟨by rw [FIN.out], rfl⟩
  case rest =>
    obtain ⟨rfl, rfl⟩ := hcut
    obtain ⟨A1, hA1⟩ : ∃ q : Nat, q = U * 4294967296 % 18446744073709551616 := ⟨_, rfl⟩
    obtain ⟨A2, hA2⟩ : ∃ q : Nat, q = (A1 + a) % 18446744073709551616 := ⟨_, rfl⟩
    obtain ⟨A3, hA3⟩ : ∃ q : Nat, q = (Q1 * Y) % 18446744073709551616 := ⟨_, rfl⟩
    obtain ⟨g1, g2, g3, g4, g5, g6, g7, g8⟩ := G.out
    have A1w : IntKind.u64.wrap ((U : Int) * 4294967296) = (A1 : Int) := by rw [u64_wrap]; omega
    have A2w : IntKind.u64.wrap ((A1 : Int) + (a : Int)) = (A2 : Int) := by rw [u64_wrap]; omega
    have A3w : IntKind.u64.wrap ((Q1 : Int) * (Y : Int)) = (A3 : Int) := by
      have : (Q1 : Int) * (Y : Int) = ((Q1 * Y : Nat) : Int) := by simp
      rw [u64_wrap, this]; omega
    have A4w : IntKind.u64.wrap ((A2 : Int) - (A3 : Int)) = (R1 : Int) := by
      have := Nat.div_add_mod (U * 4294967296 + a) Y
      rw [← g3, ← g4, Nat.mul_comm] at this
      have : R1 < 18446744073709551616 := by omega
      rw [u64_wrap]; omega
    obtain ⟨B1, hB1⟩ : ∃ q : Nat, q = R1 * 4294967296 % 18446744073709551616 := ⟨_, rfl⟩
    obtain ⟨B2, hB2⟩ : ∃ q : Nat, q = (B1 + b) % 18446744073709551616 := ⟨_, rfl⟩
    obtain ⟨B3, hB3⟩ : ∃ q : Nat, q = (Q0 * Y) % 18446744073709551616 := ⟨_, rfl⟩
    have B1w : IntKind.u64.wrap ((R1 : Int) * 4294967296) = (B1 : Int) := by rw [u64_wrap]; omega
    have B2w : IntKind.u64.wrap ((B1 : Int) + (b : Int)) = (B2 : Int) := by rw [u64_wrap]; omega
    have B3w : IntKind.u64.wrap ((Q0 : Int) * (Y : Int)) = (B3 : Int) := by
      have : (Q0 : Int) * (Y : Int) = ((Q0 * Y : Nat) : Int) := by simp
      rw [u64_wrap, this]; omega
    have B4w : IntKind.u64.wrap ((B2 : Int) - (B3 : Int)) = (R0 : Int) := by
      have := Nat.div_add_mod (R1 * 4294967296 + b) Y
      rw [← g5, ← g6, Nat.mul_comm] at this
      have : R0 < Y := by rw [g6]; exact Nat.mod_lt _ (by omega)
      rw [u64_wrap]; omega
    obtain ⟨E1, hE1⟩ : ∃ q : Nat, q = Q1 * 4294967296 := ⟨_, rfl⟩
    obtain ⟨E2, hE2⟩ : ∃ q : Nat, q = E1 + Q0 := ⟨_, rfl⟩
    obtain ⟨E3, hE3⟩ : ∃ q : Nat, q = R0 / 2 ^ s := ⟨_, rfl⟩
    have E1w : IntKind.u64.wrap ((Q1 : Int) * 4294967296) = (E1 : Int) := by rw [u64_in _ ⟨by omega, by omega⟩]; omega
    have E2w : IntKind.u64.wrap ((E1 : Int) + (Q0 : Int)) = (E2 : Int) := by rw [u64_in _ ⟨by omega, by omega⟩]; omega
    have E3w : ((R0 : Int) / 2 ^ s) = (E3 : Int) := by rw [hE3]; simp
    have FI : Aside0 ((hi * 18446744073709551616 + lo) / y = E2 ∧ (hi * 18446744073709551616 + lo) % y = E3) := ⟨by rw [g1, g2]; exact ⟨by omega, by omega⟩⟩
    clear hA1 hA2 hA3 hB1 hB2 hB3 hE1 hE2 hE3 g1 g2 g3 g4 g5 g6 g7 g8
    go_upto_block 2 with fail
    go_cut [18] (fun qv wr => qv = .int .u64 Q0 ∧ w = wr)
    case first =>
      go_wp2_with fail
      go_loopg [18, 16] p2 (fun g qv rv wr => ∃ q r : Nat, wr = w ∧ qv = .int .u64 q ∧ rv = .int .u64 r ∧ Aside0 (g = q ∧ StepInv R1 b v1 v0 q r))
      case atStart => exact ⟨_, _, rfl, rfl, rfl, ⟨rfl, S2.out⟩⟩
      case round =>
        obtain ⟨q, r, rfl, rfl, rfl, hk⟩ := hrel
        have hg := hk.out.1
        have hk2 := hk.out.2
        obtain ⟨F1, F2, F3, F4, F5⟩ := bF.out
        have hr0 : r < 4294967296 := hk2.2.1
        have hq0 : q ≤ 4294967297 := hk2.2.2.2
        have HK := Aside0.mk (And.intro hg hk2)
        clear hk
        by_cases hv : 4294967296 ≤ q ∨ 4294967296 * r + b < q * v0
        · have st := step_true R1 b v1 v0 q r F1 F2 F3 F4 F5 hk2 hv
          have x1 : IntKind.u64.wrap ((q : Int) - 1) = ((q - 1 : Nat) : Int) := by rw [u64_in _ ⟨by omega, by omega⟩]; omega
          have x2 : IntKind.u64.wrap ((r : Int) + (v1 : Int)) = ((r + v1 : Nat) : Int) := by rw [u64_in _ ⟨by omega, by omega⟩]; omega
          obtain ⟨q', hq'⟩ : ∃ q' : Nat, q' = q - 1 := ⟨_, rfl⟩
          obtain ⟨r', hr'⟩ : ∃ q' : Nat, q' = r + v1 := ⟨_, rfl⟩
          rw [← hq'] at st x1
          rw [← hr'] at st x2
          have FIN : Aside0 (4294967296 ≤ r' → (q' : Nat) = Q0) := ⟨fun h => by rw [Q0E.out]; exact step_over R1 b v1 v0 q' r' F1 F3 st.2.1 st.2.2.1 st.2.2.2 h⟩
          have RND : Aside0 (r' < 4294967296 → q' < q ∧ StepInv R1 b v1 v0 q' r') := ⟨fun h => ⟨by omega, st.2.1, h, st.2.2.1, by omega⟩⟩
          have HQ := Aside0.mk hq'
          by_cases hb : 4294967296 ≤ q
          · have c1 : decide ((4294967296 : Int) ≤ (q : Int)) = true := by simp; omega
            have c2 : decide (4294967296 ≤ q) = true := by simpa using hb
            by_cases hx : 4294967296 ≤ r'
            · have d1 : decide ((4294967296 : Int) ≤ (r' : Int)) = true := by simp; omega
              have d2 : decide (4294967296 ≤ r') = true := by simpa using hx
              have HX := Aside0.mk hx
              clear hx hb hv hk2 st hq' hr' hg F1 F2 F3 F4 F5 hr0 hq0
              go_wp2_with fail
              go_meet
              exact ⟨by rw [FIN.out HX.out], rfl⟩
            · have d1 : decide ((4294967296 : Int) ≤ (r' : Int)) = false := by simp; omega
              have d2 : decide (4294967296 ≤ r') = false := by simpa using hx
              have HX := Aside0.mk hx
              clear hx hb hv hk2 st hq' hr' hg F1 F2 F3 F4 F5 hr0 hq0
              go_wp2_with fail
              go_roundg q'
              case measure => have := HK.out.1; have := (RND.out (by have := HX.out; omega)).1; omega
              case rel => exact ⟨q', r', rfl, rfl, rfl, ⟨rfl, (RND.out (by have := HX.out; omega)).2⟩⟩
          · have c1 : decide ((4294967296 : Int) ≤ (q : Int)) = false := by simp; omega
            have c2 : decide (4294967296 ≤ q) = false := by simpa using hb
            have m1 : q * v0 < 18446744073709551616 := by
              have : q * v0 ≤ 4294967295 * v0 := Nat.mul_le_mul_right _ (by omega)
              omega
            obtain ⟨P, hP⟩ : ∃ P : Nat, P = q * v0 := ⟨_, rfl⟩
            obtain ⟨W0, hW0⟩ : ∃ P : Nat, P = 4294967296 * r := ⟨_, rfl⟩
            obtain ⟨W1, hW1⟩ : ∃ P : Nat, P = W0 + b := ⟨_, rfl⟩
            have g1 : IntKind.u64.wrap ((q : Int) * (v0 : Int)) = (P : Int) := by
              have : (q : Int) * (v0 : Int) = (P : Int) := by rw [hP]; simp
              rw [this, u64_in _ ⟨by omega, by omega⟩]
            have g2 : IntKind.u64.wrap (4294967296 * (r : Int)) = (W0 : Int) := by rw [u64_in _ ⟨by omega, by omega⟩]; omega
            have g3 : IntKind.u64.wrap ((W0 : Int) + (b : Int)) = (W1 : Int) := by rw [u64_in _ ⟨by omega, by omega⟩]; omega
            have cc : W1 < P := by omega
            have g4 : decide ((W1 : Int) < (P : Int)) = true := by simp; omega
            have g5 : decide (W1 < P) = true := by simpa using cc
            by_cases hx : 4294967296 ≤ r'
            · have d1 : decide ((4294967296 : Int) ≤ (r' : Int)) = true := by simp; omega
              have d2 : decide (4294967296 ≤ r') = true := by simpa using hx
              have HX := Aside0.mk hx
              clear hx hb hv hk2 st hq' hr' hg F1 F2 F3 F4 F5 hr0 hq0 cc hP hW0 hW1 m1
              go_wp2_with fail
              go_meet
              exact ⟨by rw [FIN.out HX.out], rfl⟩
            · have d1 : decide ((4294967296 : Int) ≤ (r' : Int)) = false := by simp; omega
              have d2 : decide (4294967296 ≤ r') = false := by simpa using hx
              have HX := Aside0.mk hx
              clear hx hb hv hk2 st hq' hr' hg F1 F2 F3 F4 F5 hr0 hq0 cc hP hW0 hW1 m1
              go_wp2_with fail
              go_roundg q'
              case measure => have := HK.out.1; have := (RND.out (by have := HX.out; omega)).1; omega
              case rel => exact ⟨q', r', rfl, rfl, rfl, ⟨rfl, (RND.out (by have := HX.out; omega)).2⟩⟩
        · have hb : ¬ 4294967296 ≤ q := fun h => hv (Or.inl h)
          have hw : ¬ 4294967296 * r + b < q * v0 := fun h => hv (Or.inr h)
          have FIN : Aside0 ((q : Nat) = Q0) := ⟨by rw [Q0E.out]; exact step_false R1 b v1 v0 q r F1 hk2 (by omega) (by omega)⟩
          have c1 : decide ((4294967296 : Int) ≤ (q : Int)) = false := by simp; omega
          have c2 : decide (4294967296 ≤ q) = false := by simpa using hb
          have m1 : q * v0 < 18446744073709551616 := by
            have : q * v0 ≤ 4294967295 * v0 := Nat.mul_le_mul_right _ (by omega)
            omega
          obtain ⟨P, hP⟩ : ∃ P : Nat, P = q * v0 := ⟨_, rfl⟩
          obtain ⟨W0, hW0⟩ : ∃ P : Nat, P = 4294967296 * r := ⟨_, rfl⟩
          obtain ⟨W1, hW1⟩ : ∃ P : Nat, P = W0 + b := ⟨_, rfl⟩
          have g1 : IntKind.u64.wrap ((q : Int) * (v0 : Int)) = (P : Int) := by
            have : (q : Int) * (v0 : Int) = (P : Int) := by rw [hP]; simp
            rw [this, u64_in _ ⟨by omega, by omega⟩]
          have g2 : IntKind.u64.wrap (4294967296 * (r : Int)) = (W0 : Int) := by rw [u64_in _ ⟨by omega, by omega⟩]; omega
          have g3 : IntKind.u64.wrap ((W0 : Int) + (b : Int)) = (W1 : Int) := by rw [u64_in _ ⟨by omega, by omega⟩]; omega
          have cc : ¬ W1 < P := by omega
          have g4 : decide ((W1 : Int) < (P : Int)) = false := by simp; omega
          have g5 : decide (W1 < P) = false := by simpa using cc
          clear hb hw hv hk2 hg F1 F2 F3 F4 F5 hr0 hq0 cc hP hW0 hW1 m1
          go_wp2_with fail
          go_meet
          exact ⟨by rw [FIN.out], rfl⟩
    case rest =>
      obtain ⟨rfl, rfl⟩ := hcut
      go_wp2_with fail
      go_ret2
      exact ⟨by rw [FI.out.1, FI.out.2]; rfl, rfl⟩
set_option maxRecDepth 100000 in
theorem div64_low (lo y : Nat) (h1 : 0 < y) (h2 : y < 18446744073709551616) (l1 : lo < 18446744073709551616) (w : World) :
    Calls Try.prog 112 #[.int .u64 (0 : Nat), .int .u64 lo, .int .u64 y] w fun e w' => e = .returned (.tuple #[.int .u64 ((lo / y : Nat) : Int), .int .u64 ((lo % y : Nat) : Int)]) ∧ Drawn0 w w' := by
  have c1 : ((y : Int) == 0) = false := by simp; omega
  have c2 : decide ((y : Int) ≤ 0) = false := by simp; omega
  have c2' : decide (y ≤ 0) = false := by simp; omega
  obtain ⟨d, hd⟩ : ∃ d, d = lo / y := ⟨_, rfl⟩
  obtain ⟨r, hr⟩ : ∃ d, d = lo % y := ⟨_, rfl⟩
  have ld : d ≤ lo := by rw [hd]; exact Nat.div_le_self _ _
  have lr : r ≤ lo := by rw [hr]; exact Nat.mod_le _ _
  have y1 : IntKind.u64.wrap ((lo : Int).tdiv (y : Int)) = (d : Int) := by
    have e : (lo : Int).tdiv (y : Int) = (d : Int) := by rw [hd]; rfl
    rw [e, u64_in _ ⟨by omega, by omega⟩]
  have y2 : IntKind.u64.wrap ((lo : Int).tmod (y : Int)) = (r : Int) := by
    have e : (lo : Int).tmod (y : Int) = (r : Int) := by rw [hr]; rfl
    rw [e, u64_in _ ⟨by omega, by omega⟩]
  rw [← hd, ← hr]
  have S : Aside0 (IntKind.u64.wrap ((lo : Int) / (y : Int)) = (d : Int) ∧ (lo : Int) % (y : Int) = (r : Int)) := ⟨by
    constructor
    · rw [← Int.tdiv_eq_ediv_of_nonneg (by omega)]; exact y1
    · rw [hr]; simp⟩
  clear hd hr ld lr
  go_enter Try.func112, Try.ntmps112
  go_wp2_with fail
  go_region
  all_goals go_wp2_with fail
  all_goals go_ret2
  refine ⟨?_, ⟨⟨1, rfl⟩⟩⟩
  show Ending.returned (.tuple #[.int .u64 (IntKind.u64.wrap ((lo : Int) / (y : Int))), .int .u64 ((lo : Int) % (y : Int))]) = _
  rw [S.out.1, S.out.2]
theorem div64_any (hi lo b : Int) (h0 : 0 ≤ hi) (h1 : hi < b) (h2 : b < 18446744073709551616) (l0 : 0 ≤ lo) (l1 : lo < 18446744073709551616) (w : World) :
    Calls Try.prog 112 #[.int .u64 hi, .int .u64 lo, .int .u64 b] w fun e w' => e = .returned (.tuple #[.int .u64 ((hi * 18446744073709551616 + lo) / b), .int .u64 ((hi * 18446744073709551616 + lo) % b)]) ∧ Drawn0 w w' := by
  obtain ⟨hi, rfl⟩ := Int.eq_ofNat_of_zero_le h0
  obtain ⟨lo, rfl⟩ := Int.eq_ofNat_of_zero_le l0
  obtain ⟨b, rfl⟩ := Int.eq_ofNat_of_zero_le (by omega : 0 ≤ b)
  have e : ((hi : Int) * 18446744073709551616 + (lo : Int)) = ((hi * 18446744073709551616 + lo : Nat) : Int) := by simp
  rw [e, ← Int.natCast_ediv, ← Int.natCast_emod]
  by_cases hz : hi = 0
  · subst hz
    have := div64_low lo b (by omega) (by omega) (by omega) w
    simpa using this
  · exact (div64_big hi lo b (by omega) (by omega) (by omega) (by omega) w).mono fun e w' hh => ⟨hh.1, by rw [← hh.2]; exact Drawn0.refl _⟩
def floorDiv (x b : Int) : Int := if 0 < b then x / b else (-x) / (-b)
def divF (a b : Int) : Int × Int := if b = 0 then (0, 11) else if isI64 (floorDiv (a * 4294967296) b) then (floorDiv (a * 4294967296) b, 0) else (0, 10)
theorem neg_ediv_floor (n m : Int) (hm : 0 < m) : (-n) / m = if n % m = 0 then -(n / m) else -(n / m + 1) := by
  have d1 := Int.mul_ediv_add_emod n m
  have d2 := Int.emod_nonneg n (show m ≠ 0 by omega)
  have d3 := Int.emod_lt_of_pos n hm
  generalize n / m = A at *
  generalize n % m = B at *
  split
  · rename_i h
    subst h
    have : -n = m * (-A) := by rw [← d1]; grind
    rw [this, Int.mul_ediv_cancel_left _ (by omega)]
  · rename_i h
    have : -n = (m - B) + m * (-(A + 1)) := by rw [← d1]; grind
    rw [this, Int.add_mul_ediv_left _ _ (by omega), Int.ediv_eq_zero_of_lt (by omega) (by omega)]
    omega
theorem floorDiv_abs (a b n m : Int) (hb : b ≠ 0) (hn : n = (a.natAbs : Int) * 4294967296) (hm : m = (b.natAbs : Int)) :
    floorDiv (a * 4294967296) b = if apartB a b = true then (if n % m = 0 then -(n / m) else -(n / m + 1)) else n / m := by
  unfold floorDiv
  by_cases ha : a = 0
  · subst ha
    have : n = 0 := by rw [hn]; rfl
    subst this
    simp [apartB]
  by_cases h2 : 0 < b
  · have e : m = b := by omega
    rw [if_pos h2, e]
    by_cases h1 : a < 0
    · rw [if_pos (by simp [apartB, ha, hb, h1]; omega), ← neg_ediv_floor n b h2]
      congr 1; rw [hn]; omega
    · rw [if_neg (by simp [apartB, ha, hb, h1]; omega)]
      congr 1; rw [hn]; omega
  · have e : m = -b := by omega
    rw [if_neg h2, e]
    by_cases h1 : a < 0
    · rw [if_neg (by simp [apartB, ha, hb, h1]; omega)]
      congr 1; rw [hn]; omega
    · rw [if_pos (by simp [apartB, ha, hb, h1]; omega), ← neg_ediv_floor n (-b) (by omega)]
      congr 1; rw [hn]; omega
theorem div_sgn (a b n : Int) (hb : b ≠ 0) (hn : n = (a.natAbs : Int) * 4294967296) : sgn (n / (b.natAbs : Int)) (n % (b.natAbs : Int) != 0) (apartB a b) = divF a b := by
  obtain ⟨m, hm⟩ : ∃ m : Int, m = (b.natAbs : Int) := ⟨_, rfl⟩
  have hf := floorDiv_abs a b n m hb hn hm
  rw [← hm]
  unfold divF
  rw [if_neg hb, hf]
  have h0 : 0 ≤ n / m := Int.ediv_nonneg (by omega) (by omega)
  generalize n / m = A at *
  generalize n % m = B at *
  cases apartB a b
  · rw [if_neg (show ¬ (false = true) by decide)]
    by_cases ho : A > 9223372036854775807
    · rw [sgn_pos_over ho, if_neg (by omega)]
    · rw [sgn_pos_in ho, if_pos (by omega)]
  · rw [if_pos (show (true = true) from rfl)]
    by_cases hr : B = 0
    · rw [if_pos hr, show (B != 0) = false by simpa using hr]
      by_cases ho : A > 9223372036854775808
      · rw [sgn_neg_over (x := A) (by simp) ho, if_neg (by omega)]
      · rw [sgn_neg_in (x := A) (by simp) ho, if_pos (by omega)]
    · rw [if_neg hr, show (B != 0) = true by simpa using hr]
      by_cases ho : A + 1 > 9223372036854775808
      · rw [sgn_neg_over (x := A + 1) (by simp) ho, if_neg (by omega)]
      · rw [sgn_neg_in (x := A + 1) (by simp) ho, if_pos (by omega)]
theorem div_split (n m hi lo : Nat) (q1 r1 : Int) (m0 : 0 < m) (hlo : lo = n * 4294967296 % 18446744073709551616) (hhi : hi = n / 4294967296)
    (hq1 : q1 = ((hi : Int) % (m : Int) * 18446744073709551616 + (lo : Int)) / (m : Int)) (hr1 : r1 = ((hi : Int) % (m : Int) * 18446744073709551616 + (lo : Int)) % (m : Int)) :
    (hi : Int) / (m : Int) * 18446744073709551616 + q1 = (n : Int) * 4294967296 / (m : Int) ∧ r1 = (n : Int) * 4294967296 % (m : Int) ∧ 0 ≤ q1 ∧ q1 < 18446744073709551616 ∧ 0 ≤ r1 := by
  have hN : (n : Int) * 4294967296 = (hi : Int) * 18446744073709551616 + (lo : Int) := by omega
  have hm : (0 : Int) < (m : Int) := by omega
  have d1 := Int.mul_ediv_add_emod (hi : Int) (m : Int)
  have d2 := Int.emod_nonneg (hi : Int) (show (m : Int) ≠ 0 by omega)
  have d3 := Int.emod_lt_of_pos (hi : Int) hm
  generalize (hi : Int) / (m : Int) = A at *
  generalize (hi : Int) % (m : Int) = B at *
  have hN2 : (n : Int) * 4294967296 = (B * 18446744073709551616 + lo) + (m : Int) * (A * 18446744073709551616) := by rw [hN]; grind
  have f1 : (n : Int) * 4294967296 / (m : Int) = q1 + A * 18446744073709551616 := by rw [hN2, Int.add_mul_ediv_left _ _ (by omega), ← hq1]
  have f2 : (n : Int) * 4294967296 % (m : Int) = r1 := by rw [hN2, Int.add_mul_emod_self_left, ← hr1]
  refine ⟨by rw [f1]; omega, f2.symm, ?_, ?_, ?_⟩
  · rw [hq1]; exact Int.ediv_nonneg (by omega) (by omega)
  · rw [hq1]; exact Int.ediv_lt_of_lt_mul hm (by omega)
  · rw [hr1]; exact Int.emod_nonneg _ (by omega)
set_option maxRecDepth 100000 in
theorem fixDiv_any (a b : Int) (ha : isI64 a) (hb : isI64 b) (w : World) :
    Calls Try.prog 92 #[.int .i64 a, .int .i64 b] w fun e w' => e = .returned (.tuple #[.int .i64 (divF a b).1, .int .i64 (divF a b).2]) ∧ Below w.heap.size w w' := by
  by_cases hz : b = 0
  · have d : (b == 0) = true := by simpa using hz
    have S : Aside0 (divF a b = (0, 11)) := ⟨by unfold divF; rw [if_pos hz]⟩
    clear hz ha hb
    go_enter Try.func92, Try.ntmps92
    go_wp2
    go_ret2
    exact ⟨by rw [S.out]; rfl, Below.refl _ _⟩
  · have d : (b == 0) = false := by simpa using hz
    have HA := Aside0.mk ha
    have HB := Aside0.mk hb
    obtain ⟨n, hn⟩ : ∃ n : Nat, n = a.natAbs := ⟨_, rfl⟩
    obtain ⟨m, hm⟩ : ∃ m : Nat, m = b.natAbs := ⟨_, rfl⟩
    have S := Aside0.mk (div_sgn a b ((n : Int) * 4294967296) hz (by rw [hn]))
    rw [← hm] at S
    have N := Aside0.mk (And.intro hn hm)
    have n1 : n ≤ 9223372036854775808 := by omega
    have m1 : m ≤ 9223372036854775808 := by omega
    have m0 : 0 < m := by omega
    obtain ⟨lo, hlo⟩ : ∃ lo : Nat, lo = n * 4294967296 % 18446744073709551616 := ⟨_, rfl⟩
    obtain ⟨hi, hhi⟩ : ∃ hi : Nat, hi = n / 4294967296 := ⟨_, rfl⟩
    have e1 : IntKind.u64.wrap ((n : Int) * 4294967296) = (lo : Int) := by rw [u64_wrap]; omega
    have e2 : (n : Int) / 4294967296 = (hi : Int) := by omega
    have q0 : (hi : Int) / (m : Int) ≤ (hi : Int) ∧ 0 ≤ (hi : Int) / (m : Int) := ⟨by rw [← Int.natCast_ediv]; have := Nat.div_le_self hi m; omega, Int.ediv_nonneg (by omega) (by omega)⟩
    have e5 : IntKind.u64.wrap ((hi : Int) / (m : Int)) = (hi : Int) / (m : Int) := u64_in _ ⟨by omega, by omega⟩
    obtain ⟨q1, hq1⟩ : ∃ q1 : Int, q1 = ((hi : Int) % (m : Int) * 18446744073709551616 + (lo : Int)) / (m : Int) := ⟨_, rfl⟩
    obtain ⟨r1, hr1⟩ : ∃ r1 : Int, r1 = ((hi : Int) % (m : Int) * 18446744073709551616 + (lo : Int)) % (m : Int) := ⟨_, rfl⟩
    have V : Aside0 ((hi : Int) / (m : Int) * 18446744073709551616 + q1 = (n : Int) * 4294967296 / (m : Int) ∧ r1 = (n : Int) * 4294967296 % (m : Int) ∧ 0 ≤ q1 ∧ q1 < 18446744073709551616 ∧ 0 ≤ r1) := ⟨div_split n m hi lo q1 r1 m0 hlo hhi hq1 hr1⟩
    have Q := Aside0.mk (And.intro hq1 hr1)
    have Q0 := Aside0.mk q0
    clear hq1 hr1 q0
    have LH := Aside0.mk (And.intro hlo hhi)
    have hz2 : ¬ ((m : Int) = 0) := by omega
    have hz3 : ((m : Int) == 0) = false := by simp; omega
    clear ha hb hz hn hm hlo hhi
    obtain ⟨d1, hd1⟩ : ∃ d1, (divF a b).1 = d1 := ⟨_, rfl⟩
    obtain ⟨d2, hd2⟩ : ∃ d2, (divF a b).2 = d2 := ⟨_, rfl⟩
    have HS : Aside0 (∀ W : World, Calls Try.prog 54 #[.agg #[.int .u64 ((hi : Int) / (m : Int)), .int .u64 q1], .bool (r1 != 0), .bool (apartB a b)] W fun e w' => e = .returned (.tuple #[.int .i64 d1, .int .i64 d2]) ∧ Below W.heap.size W w') := ⟨fun W => by
      refine (signed_any _ _ _ _ Q0.out.2 (by have := Q0.out.1; have := LH.out.2; omega) V.out.2.2.1 V.out.2.2.2.1 W).mono fun e w' hh => ?_
      have e9 : sgn ((hi : Int) / (m : Int) * 18446744073709551616 + q1) (r1 != 0) (apartB a b) = divF a b := by rw [V.out.1, V.out.2.1]; exact S.out
      rw [SgnPost, e9, hd1, hd2] at hh
      exact hh⟩
    rw [hd1, hd2]
    clear hd1 hd2
    go_enter Try.func92, Try.ntmps92
    go_wp2_with fail
    refine (size_any a HA.out _).mono ?_
    rw [← N.out.1]
    rintro e w' ⟨rfl, rfl⟩
    go_wp2_with fail
    refine (size_any b HB.out _).mono ?_
    rw [← N.out.2]
    rintro e w' ⟨rfl, rfl⟩
    go_wp2_with fail
    go_region
    go_wp2_with fail
    refine (div64_any _ _ _ (Int.emod_nonneg _ (by omega)) (Int.emod_lt_of_pos _ (by omega)) (by omega) (by omega) (by have := LH.out.1; omega) _).mono ?_
    rw [← Q.out.1, ← Q.out.2]
    rintro e w' ⟨rfl, ⟨nd, rfl⟩⟩
    go_wp2_with fail
    go_region_with (first | (go_at_call 55; refine (apart_any a b _).mono ?_; rintro e w' ⟨rfl, rfl⟩) | (go_at_call 54; refine (HS.out _).mono ?_; rintro e w' ⟨rfl, hb⟩))
    all_goals
      have hb := Aside0.mk hb
      go_wp2
      go_ret2
      refine ⟨by simp [Act.put]; done, ?_⟩
      exact (((pw_below_drewN (below_alloc (Below.refl _ _) _) _).setCell (p := ⟨w.heap.size, 1, none⟩) (Nat.le_refl _) _).drew).trans (hb.out.mono (by simp))
