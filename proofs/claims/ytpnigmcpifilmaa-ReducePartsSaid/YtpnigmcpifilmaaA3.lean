/- Contracts of shape.Size, shape.Index, tensor.Check and slices.Repeat. -/
import Derived.Test.YtpnigmcpifilmaaA2
import Derived.Deep.RegionLaw
import Derived.StillTailTactics
namespace Go.Proofs.Ytpnigmcpifilmaa.P
open Go.RowKit Go.Proofs.YtpnigmcpifilmaaW.PrintWords Go.Proofs.YtpnigmcpifilmaaW.PrintLast Go.Proofs.YtpnigmcpifilmaaW.PrintMore
set_option linter.unusedVariables false
set_option linter.unusedSimpArgs false
def sizeS (s : List Int) : Nat := if shapeOk s then (prod s).toNat else 0
theorem sizeS_le (s : List Int) : sizeS s ≤ 64 := by
  unfold sizeS; split
  · rename_i h; simp only [shapeOk, Bool.and_eq_true, decide_eq_true_eq] at h; omega
  · omega
theorem shapeOk_bd {s : List Int} (h : shapeOk s = true) : s.length ≤ 3 ∧ s.all sideOk = true ∧ 1 ≤ prod s ∧ prod s ≤ 64 ∧ (sizeS s : Int) = prod s := by
  have h' := h
  simp only [shapeOk, Bool.and_eq_true, decide_eq_true_eq] at h'
  have := (sides_bd s h'.1.2).1
  refine ⟨h'.1.1, h'.1.2, this, h'.2, ?_⟩
  unfold sizeS; rw [if_pos h]; omega
theorem prod_take_le (s : List Int) (h : shapeOk s = true) (k : Nat) : 1 ≤ prod (s.take k) ∧ prod (s.take k) ≤ 64 := by
  have hb := shapeOk_bd h
  have h1 := (sides_bd _ (sides_take s k hb.2.1)).1
  have h2 := (sides_bd (s.drop k) (by have := hb.2.1; simp only [List.all_eq_true] at *; exact fun x hx => this x (List.mem_of_mem_drop hx))).1
  have h3 : prod s = prod (s.take k) * prod (s.drop k) := by rw [← prod_append, List.take_append_drop]
  refine ⟨h1, ?_⟩
  have h4 : prod (s.take k) * 1 ≤ prod (s.take k) * prod (s.drop k) := Int.mul_le_mul_of_nonneg_left h2 (by omega)
  omega
set_option maxRecDepth 100000 in
theorem size_sh (A0 : Option Addr) (c0 : Nat) (l0 : List Int) (w : World) (hr0 : Kd.C (Kd.int .i64) w A0 l0.length l0) :
    Calls Try.prog 44 #[.slice A0 l0.length c0] w fun e w' => e = .returned (.int .i64 (sizeS l0 : Nat)) ∧ w = w' := by
  have HR := Aside0.mk hr0
  clear hr0
  by_cases ok : shapeOk l0 = true
  · have hb := shapeOk_bd ok
    have HB := Aside0.mk (And.intro ok hb)
    have hl := hb.1
    clear hb
    go_enter Try.func44, Try.ntmps44
    go_wp2_with fail
    refine (check_any _ _ l0 _ HR.out).mono ?_
    rw [ok]
    clear ok
    rintro e w' ⟨rfl, rfl⟩
    go_wp2_with fail
    go_loopg [3, 5, 11] (l0.length) (fun g n _ i wr => ∃ k : Nat, w = wr ∧ i = .int .i64 k ∧ n = .int .i64 (prod (l0.take k)) ∧ Aside0 (k ≤ l0.length ∧ g = l0.length - k))
    case atStart => exact ⟨0, rfl, rfl, rfl, ⟨by omega, by omega⟩⟩
    case round =>
      obtain ⟨k, rfl, rfl, rfl, HA⟩ := hrel
      obtain ⟨hk, hg⟩ := HA.out
      by_cases hlt : k < l0.length
      · have c1 : decide ((k : Int) < (l0.length : Int)) = true := by simpa using hlt
        have c2 : decide (k < l0.length) = true := by simpa using hlt
        obtain ⟨ad, rfl, hx⟩ := Kd.at_int HR.out k (by omega) (by omega)
        simp at hx
        have ts := take_rd l0 k hlt
        obtain ⟨x, hxe⟩ : ∃ x, rd l0 k = x := ⟨_, rfl⟩
        rw [hxe] at ts hx
        have hp : prod (l0.take (k + 1)) = prod (l0.take k) * x := by rw [ts, prod_append]; simp [prod]
        have hbd := prod_take_le l0 HB.out.1 (k + 1)
        have hw : IntKind.i64.wrap (prod (l0.take k) * x) = prod (l0.take (k + 1)) := by
          rw [← hp]; exact IntWalk.i64_in _ ⟨by omega, by omega⟩
        have hwi : IntKind.i64.wrap ((k : Int) + 1) = ((k + 1 : Nat) : Int) := by rw [IntWalk.i64_in _ ⟨by omega, by omega⟩]; omega
        have G := Aside0.mk (And.intro hg hlt)
        clear ts hxe hp hbd hk hg
        go_wp2
        go_roundg (l0.length - (k + 1))
        case measure => have := G.out; omega
        case rel => exact ⟨k + 1, rfl, by first | rfl | simp, rfl, ⟨by have := G.out; omega, rfl⟩⟩
      · have c1 : decide ((k : Int) < (l0.length : Int)) = false := by simpa using hlt
        have c2 : decide (k < l0.length) = false := by simpa using hlt
        obtain rfl : k = l0.length := by omega
        rw [List.take_length] at *
        clear hk hg hlt
        go_wp2
        go_ret
        exact ⟨ret_val (by rw [HB.out.2.2.2.2.2]; rfl), rfl⟩
  · have H : Aside0 (sizeS l0 = 0) := ⟨by unfold sizeS; rw [if_neg ok]⟩
    have ok' : shapeOk l0 = false := by simpa using ok
    clear ok
    go_enter Try.func44, Try.ntmps44
    go_wp2_with fail
    refine (check_any _ _ l0 _ HR.out).mono ?_
    rw [ok']
    clear ok'
    rintro e w' ⟨rfl, rfl⟩
    go_wp2_with fail
    go_ret
    exact ⟨ret_val (by rw [H.out]; rfl), rfl⟩
theorem quiet_own {P : Program} {f : FuncId} {args : Array Value} {w : World} {n : Nat} {v : Value}
    (h : Calls P f args (w.drewN n) fun e w' => e = .returned v ∧ w.drewN n = w') : Calls P f args (w.drewN n) fun e w'' => e = .returned v ∧ ∃ m, w'' = w.drewN m :=
  h.mono fun _ _ hh => ⟨hh.1, n, hh.2.symm⟩
theorem check_q (A0 : Option Addr) (c0 : Nat) (s : List Int) (W : World) (n : Nat) (b : Bool) (h : shapeOk s = b) (hr0 : Kd.C (Kd.int .i64) W A0 s.length s) :
    Calls Try.prog 43 #[.slice A0 s.length c0] (W.drewN n) fun e w' => e = .returned (.bool b) ∧ ∃ m, w' = W.drewN m := by
  subst h; exact quiet_own (check_any A0 c0 s _ (Kd.C_drewN hr0 _))
theorem size_q (A0 : Option Addr) (c0 : Nat) (s : List Int) (W : World) (n : Nat) (hr0 : Kd.C (Kd.int .i64) W A0 s.length s) :
    Calls Try.prog 44 #[.slice A0 s.length c0] (W.drewN n) fun e w' => e = .returned (.int .i64 (sizeS s : Nat)) ∧ ∃ m, w' = W.drewN m :=
  quiet_own (size_sh A0 c0 s _ (Kd.C_drewN hr0 _))
/-- A tensor that is one. -/
def tOk (s d : List Int) : Bool := shapeOk s && decide (d.length = sizeS s)
set_option maxRecDepth 100000 in
theorem tcheck_any (A0 : Option Addr) (c0 : Nat) (s : List Int) (A1 : Option Addr) (c1 : Nat) (d : List Int) (w : World) (hr0 : Kd.C (Kd.int .i64) w A0 s.length s) :
    Calls Try.prog 16 #[.agg #[.slice A0 s.length c0, .slice A1 d.length c1]] w fun e w' => e = .returned (.bool (tOk s d)) ∧ Below w.heap.size w w' := by
  have HR := Aside0.mk hr0
  clear hr0
  have hb : Aside0 (Below w.heap.size w (w.alloc (.cells #[.slice A0 s.length c0, .slice A1 d.length c1] 24))) := ⟨below_alloc (Below.refl _ _) _⟩
  have HR1 : Aside0 (Kd.C (Kd.int .i64) (w.alloc (.cells #[.slice A0 s.length c0, .slice A1 d.length c1] 24)) A0 s.length s) := ⟨Kd.C_below HR.out hb.out⟩
  go_enter Try.func16, Try.ntmps16
  go_wp2_with fail
  by_cases ok : shapeOk s = true
  · have C := Aside0.mk ok
    have LL : ((d.length : Int) == (sizeS s : Int)) = tOk s d := by
      rw [tOk, ok, Bool.true_and, Bool.eq_iff_iff, beq_iff_eq, decide_eq_true_eq]; omega
    clear ok
    go_quiet (first | (go_at_call 43; exact check_q A0 c0 s _ _ _ C.out HR1.out) | (go_at_call 44; exact size_q A0 c0 s _ _ HR1.out))
    go_wp2
    go_ret
    exact ⟨rfl, pw_below_drewN hb.out _⟩
  · have C : Aside0 (shapeOk s = false) := ⟨by simpa using ok⟩
    have LL : Aside0 (tOk s d = false) := ⟨by rw [tOk, C.out]; rfl⟩
    clear ok
    go_quiet (first | (go_at_call 43; exact check_q A0 c0 s _ _ _ C.out HR1.out))
    go_wp2
    go_ret
    exact ⟨ret_bool LL.out.symm, pw_below_drewN hb.out _⟩
/-! shape.Index: the place's numbers, from the last one on -/
def idxR : List Int → Int → List Int
  | [], _ => []
  | g :: rg, p => p % g :: idxR rg (p / g)
def plR : List Int → Nat → Int → Int
  | _, 0, p => p
  | [], _ + 1, p => p
  | g :: rg, k + 1, p => plR rg k (p / g)
def idxL (s : List Int) (p : Int) : List Int := (idxR s.reverse p).reverse
theorem idxR_length : ∀ (rs : List Int) (p : Int), (idxR rs p).length = rs.length
  | [], _ => rfl
  | _ :: rg, p => by simp [idxR, idxR_length rg]
theorem idxL_length (s : List Int) (p : Int) : (idxL s p).length = s.length := by simp [idxL, idxR_length]
theorem plR_zero (rs : List Int) (p : Int) : plR rs 0 p = p := by cases rs <;> rfl
theorem plR_succ : ∀ (rs : List Int) (k : Nat) (p : Int), k < rs.length → plR rs (k + 1) p = plR rs k p / rs.getD k 1
  | [], k, p, h => by simp at h
  | g :: rg, 0, p, h => by cases rg <;> simp [plR]
  | g :: rg, k + 1, p, h => by
    have := plR_succ rg k (p / g) (by simpa using h)
    simp only [plR, List.getD_cons_succ]; exact this
theorem idxR_at : ∀ (rs : List Int) (k : Nat) (p : Int), k < rs.length → (idxR rs p).getD k 0 = plR rs k p % rs.getD k 1
  | [], k, p, h => by simp at h
  | g :: rg, 0, p, h => by simp [plR, idxR]
  | g :: rg, k + 1, p, h => by
    have := idxR_at rg k (p / g) (by simpa using h)
    simp only [plR, idxR, List.getD_cons_succ]; exact this
theorem plR_bd : ∀ (rs : List Int) (k : Nat) (p : Int), rs.all sideOk = true → 0 ≤ p → 0 ≤ plR rs k p ∧ plR rs k p ≤ p
  | [], 0, p, _, h => by simp [plR, h]
  | [], k + 1, p, _, h => by simp [plR, h]
  | g :: rg, 0, p, _, h => by simp [plR, h]
  | g :: rg, k + 1, p, ha, h => by
    simp only [List.all_cons, Bool.and_eq_true, sideOk, decide_eq_true_eq] at ha
    have h1 : 0 ≤ p / g := Int.ediv_nonneg h (by omega)
    have h2 : p / g ≤ p := Int.ediv_le_self _ h
    have := plR_bd rg k (p / g) (by simpa [sideOk] using ha.2) h1
    simp only [plR]; omega
theorem rev_at (s : List Int) (k : Nat) (h : k < s.length) : rd s ((s.length - 1 - k : Nat) : Int) = s.reverse.getD k 1 := by
  unfold rd
  simp only [Int.toNat_natCast, List.getD_eq_getElem?_getD]
  rw [List.getElem?_reverse (by omega), List.getElem?_eq_getElem (show s.length - 1 - k < s.length by omega)]
  simp
theorem idx_at (s : List Int) (p : Int) (k : Nat) (h : k < s.length) : (idxL s p).getD ((idxL s p).length - 1 - k) 0 = plR s.reverse k p % s.reverse.getD k 1 := by
  rw [idxL_length, ← idxR_at _ _ _ (by simpa using h), idxL]
  simp only [List.getD_eq_getElem?_getD]
  rw [List.getElem?_reverse (by rw [idxR_length]; simp; omega), idxR_length]
  congr 2; simp; omega
theorem side_mem (s : List Int) (k : Nat) (h : s.all sideOk = true) (hk : k < s.length) : 1 ≤ s.reverse.getD k 1 ∧ s.reverse.getD k 1 ≤ 16 := by
  have hm : s.reverse.getD k 1 ∈ s := by
    rw [List.getD_eq_getElem?_getD, List.getElem?_eq_getElem (show k < s.reverse.length by simpa using hk)]
    simp only [Option.getD_some]
    exact List.mem_reverse.mp (List.getElem_mem _)
  have := List.all_eq_true.mp h _ hm
  simpa [sideOk] using this
set_option maxRecDepth 100000 in
theorem index_any (A0 : Option Addr) (c0 : Nat) (s : List Int) (p : Int) (w : World) (hr0 : Kd.C (Kd.int .i64) w A0 s.length s) (h0 : 0 ≤ p) (h1 : p < sizeS s) :
    Calls Try.prog 99 #[.slice A0 s.length c0, .int .i64 p] w fun e w' => ∃ v0_ : Value, e = .returned (.tuple #[v0_, .int .i64 0]) ∧ Kd.R (Kd.int .i64) 3 w' w.heap.size (fun _ => True) v0_ (idxL s p) ∧ Below w.heap.size w w' := by
  have ok : shapeOk s = true := by
    unfold sizeS at h1; split at h1
    · assumption
    · omega
  have hbd := shapeOk_bd ok
  have HR := Aside0.mk hr0
  have p64 : p < 64 := by have := sizeS_le s; omega
  have d1 : decide (p < 0) = false := by simp; omega
  have d2 : decide ((sizeS s : Int) ≤ p) = false := by simp; omega
  have hn3 := hbd.1
  have OK := Aside0.mk (And.intro ok hbd)
  have hmk := print_make (P := Try.prog) 22 3 .i64 8 Try.underlying22 infoInt (by decide) s.length (by omega)
  have P := Aside0.mk (And.intro h0 p64)
  clear hr0 ok hbd h0 h1 p64
  go_enter Try.func99, Try.ntmps99
  go_wp2_with fail
  refine (size_sh _ _ s _ HR.out).mono ?_
  rintro e w' ⟨rfl, rfl⟩
  go_wp2_with fail
  have ho : Aside0 ((w.alloc (.cells (madeCells #[.int .i64 0] s.length) 3)).ownsRow w.heap.size 3 1 (.slice (some ⟨w.heap.size, 0, none⟩) s.length s.length) s.length (nums .i64 (List.replicate s.length 0))) :=
    ⟨own_made w w.heap.size 3 .i64 s.length (Nat.le_refl _) (by omega)⟩
  have hb : Aside0 (Below w.heap.size w (w.alloc (.cells (madeCells #[.int .i64 0] s.length) 3))) := ⟨below_alloc (Below.refl _ _) _⟩
  clear hmk
  go_loopg [1, 22] s.length (fun g pl i wr => ∃ k : Nat, i = .int .i64 k ∧ pl = .int .i64 (plR s.reverse k p) ∧ Aside0 (wr.ownsRow w.heap.size 3 1 (.slice (some ⟨w.heap.size, 0, none⟩) s.length s.length) s.length (nums .i64 (List.replicate (s.length - k) 0 ++ (idxL s p).drop (s.length - k)))) ∧
      Aside0 (Below w.heap.size w wr) ∧ Aside0 (k ≤ s.length ∧ g = s.length - k))
  case atStart =>
    refine ⟨0, rfl, by rw [plR_zero], ⟨?_⟩, hb, ⟨by omega, by omega⟩⟩
    rw [List.drop_eq_nil_of_le (by rw [idxL_length]; omega)]
    simpa using ho.out
  case round =>
    clear ho hb d1 d2
    obtain ⟨k, rfl, rfl, ho, hb, hk⟩ := hrel
    obtain ⟨hk1, hg⟩ := hk.out
    clear hk
    have R0 : Aside0 (Kd.C (Kd.int .i64) wr A0 s.length s) := ⟨Kd.C_below HR.out hb.out⟩
    by_cases hlt : k < s.length
    · have c1 : decide ((k : Int) < (s.length : Int)) = true := by simpa using hlt
      have c2 : decide (k < s.length) = true := by simpa using hlt
      have w1 : IntKind.i64.wrap ((s.length : Int) - 1) = ((s.length - 1 : Nat) : Int) := by rw [wrap_in _ ⟨by omega, by omega⟩]; omega
      have w2 : IntKind.i64.wrap (((s.length - 1 : Nat) : Int) - (k : Int)) = ((s.length - 1 - k : Nat) : Int) := by rw [wrap_in _ ⟨by omega, by omega⟩]; omega
      have w3 : IntKind.i64.wrap ((k : Int) + 1) = ((k + 1 : Nat) : Int) := by rw [wrap_in _ ⟨by omega, by omega⟩]; omega
      have b1 : s.length - 1 - k < s.length := by omega
      have G := Aside0.mk (And.intro hg hlt)
      obtain ⟨ad, rfl, hx⟩ := Kd.at_int R0.out ((s.length - 1 - k : Nat) : Int) (by omega) (by omega)
      rw [rev_at s k hlt] at hx
      have hat := idx_at s p k hlt
      have hsu := plR_succ s.reverse k p (by simpa using hlt)
      have hpb := plR_bd s.reverse k p (by rw [List.all_reverse]; exact OK.out.2.2.1) P.out.1
      have hsd := side_mem s k OK.out.2.2.1 hlt
      obtain ⟨x, hxe⟩ : ∃ x, s.reverse.getD k 1 = x := ⟨_, rfl⟩
      obtain ⟨y, hye⟩ : ∃ x, plR s.reverse k p = x := ⟨_, rfl⟩
      rw [hxe] at hx hat hsu hsd
      rw [hye] at hat hsu hpb ⊢
      obtain ⟨r, hre⟩ : ∃ r, y % x = r := ⟨_, rfl⟩
      obtain ⟨q, hqe⟩ : ∃ q, y / x = q := ⟨_, rfl⟩
      have e1 : y.tmod x = r := by rw [Int.tmod_eq_emod_of_nonneg hpb.1]; exact hre
      have e2 : y.tdiv x = q := by rw [Int.tdiv_eq_ediv_of_nonneg hpb.1]; exact hqe
      have qb : 0 ≤ q ∧ q ≤ y := by rw [← hqe]; exact ⟨Int.ediv_nonneg hpb.1 (by omega), Int.ediv_le_self _ hpb.1⟩
      have rb : 0 ≤ r ∧ r < 16 := by rw [← hre]; exact ⟨Int.emod_nonneg _ (by omega), by have := Int.emod_lt_of_pos y (show 0 < x by omega); omega⟩
      have w4 : IntKind.i64.wrap q = q := by have := P.out; rw [wrap_in _ ⟨by omega, by omega⟩]
      have w5 : IntKind.i64.wrap r = r := by rw [wrap_in _ ⟨by omega, by omega⟩]
      have x0 : ¬ x = 0 := by omega
      have x1 : (x == 0) = false := by simpa using x0
      rw [hre] at hat
      rw [hqe] at hsu
      have hown := own_store ho.out ((s.length - 1 - k : Nat) : Int) r
      have hcell := own_at ho.out ((s.length - 1 - k : Nat) : Int) (by omega) (by omega)
      simp only [Int.toNat_natCast] at hown hcell hx
      obtain ⟨hc1, hc2⟩ := hcell
      have fin : Aside0 ((wr.setCell ⟨w.heap.size, s.length - 1 - k, none⟩ (.int .i64 r)).ownsRow w.heap.size 3 1 (.slice (some ⟨w.heap.size, 0, none⟩) s.length s.length) s.length (nums .i64 (List.replicate (s.length - (k + 1)) 0 ++ (idxL s p).drop (s.length - (k + 1))))) := ⟨by
        have := join_step (idxL s p) k r (by rw [idxL_length]; omega) hat
        rw [idxL_length] at this
        rw [← this]
        exact hown.1⟩
      have fin2 : Aside0 (Below w.heap.size w (wr.setCell ⟨w.heap.size, s.length - 1 - k, none⟩ (.int .i64 r))) := ⟨hb.out.setCell (p := ⟨w.heap.size, s.length - 1 - k, none⟩) (Nat.le_refl _) _⟩
      have SU := Aside0.mk hsu
      clear hre hqe hxe hye hat hsu hpb hsd qb rb hown ho hb hg hlt
      go_wp2_with fail
      go_region
      all_goals go_wp2_with fail
      go_roundg (s.length - (k + 1))
      case measure => have := G.out; omega
      case rel => exact ⟨k + 1, by first | rfl | simp, by rw [SU.out], ⟨own_drew fin.out⟩, ⟨fin2.out.drew⟩, ⟨by have := G.out; omega, rfl⟩⟩
    · obtain rfl : k = s.length := by omega
      have c1 : decide ((s.length : Int) < (s.length : Int)) = false := by simp
      have c2 : decide (s.length < s.length) = false := by simp
      have ho2 : Aside0 (wr.ownsRow w.heap.size 3 1 (.slice (some ⟨w.heap.size, 0, none⟩) s.length s.length) (idxL s p).length (nums .i64 (idxL s p))) := ⟨by
        have := ho.out; rw [idxL_length]; simpa using this⟩
      clear ho R0 hlt hg hk1
      go_wp2
      go_ret2
      exact ⟨_, rfl, toR ho2.out (fun _ _ => trivial), hb.out⟩
/-! slices.Repeat -/
theorem bits_Mul_sm (w : World) (a b : Int) (h0 : 0 ≤ a) (h1 : a ≤ 1000) (h2 : 0 ≤ b) (h3 : b ≤ 1000) :
    Calls Try.prog 96 #[.int .u64 a, .int .u64 b] w fun e w' => e = .returned (.tuple #[.int .u64 0, .int .u64 (a * b)]) ∧ w = w' := by
  obtain ⟨a, rfl⟩ := Int.eq_ofNat_of_zero_le h0
  obtain ⟨b, rfl⟩ := Int.eq_ofNat_of_zero_le h2
  have hm : a * b ≤ 1000 * 1000 := Nat.mul_le_mul (by omega) (by omega)
  refine (Try.bits_Mul a b (by omega) (by omega) w).mono fun e w' hh => ⟨?_, hh.2.symm⟩
  rw [hh.1, Nat.div_eq_of_lt (by omega), Nat.mod_eq_of_lt (by omega)]
  simp
/-- a row of m cells, the first c of which hold x, the others 0 -/
def part (x : Int) (c m : Nat) : List Value := List.replicate c (.int .i64 x) ++ List.replicate (m - c) (.int .i64 0)
theorem part_length (x : Int) (c m : Nat) (h : c ≤ m) : (part x c m).length = m := by simp [part]; omega
theorem part_made (x : Int) (m : Nat) : (madeCells #[.int .i64 0] m) = (part x 0 m).toArray := by
  apply Array.ext
  · simp [part, size_madeCells]
  · intro i h1 h2
    simp [part, madeCells, Nat.mod_one]
theorem part_full (x : Int) (m : Nat) : part x m m = nums .i64 (List.replicate m x) := by simp [part, nums]
theorem part_splice (x : Int) (c d m : Nat) (h : c + d ≤ m) : splice (part x c m) c (List.replicate d (.int .i64 x)) = part x (c + d) m := by
  unfold splice part
  rw [List.take_left' (by simp), List.drop_append]
  simp only [List.length_replicate]
  rw [List.drop_eq_nil_of_le (by simp), List.nil_append, List.drop_replicate, ← List.append_assoc, List.replicate_append_replicate]
  congr 2
  omega
theorem part_get (x : Int) (c m j : Nat) (h : j < c) : (part x c m)[j]? = some (.int .i64 x) := by
  simp [part, h, List.getElem?_append]
theorem one_src (x : Int) (ad : Addr) (w : World) (h : w.cell? ad = some (.int .i64 x)) : ∀ (j : Nat) (v : Value), [Value.int .i64 x][j]? = some v → w.cell? (ad.add j) = some v := by
  intro j v hv
  cases j with
  | succ j => simp at hv
  | zero => simp at hv; subst hv; simpa [Addr.add] using h
theorem copy_src (x : Int) (g k d m : Nat) (w : World) (hd : d = min k (m - k)) (hk : k ≤ m) (hh : w.heap[g]? = some (.cells (part x k m).toArray 3 (0, 0))) :
    0 < (List.replicate d (Value.int .i64 x)).length → (some (⟨g, k, none⟩ : Addr)) = some ⟨g, k, none⟩ ∧ ∃ ad, (some (⟨g, 0, none⟩ : Addr)) = some ad ∧ ∀ (j : Nat) (v : Value), (List.replicate d (Value.int .i64 x))[j]? = some v → w.cell? (ad.add j) = some v := by
  intro _
  refine ⟨rfl, _, rfl, fun j v hv => ?_⟩
  have hj : j < d := by
    have := (List.getElem?_eq_some_iff.1 hv).1
    simpa using this
  simp [hj] at hv
  subst hv
  rw [add_plain]
  simp only [World.cell?, hh]
  simpa using part_get x k m j (by omega)
set_option maxRecDepth 100000 in
theorem slices_Repeat_one (A0 : Option Addr) (c0 : Nat) (x : Int) (m : Nat) (hm1 : 1 ≤ m) (hm2 : m ≤ 1000) (w : World) (hr0 : ReadsInt w .i64 A0 1 [x]) :
    Calls Try.prog 49 #[.slice A0 1 c0, .int .i64 m] w fun e w' => ∃ v0_ : Value, e = .returned (v0_) ∧ Kd.R (Kd.int .i64) 3 w' w.heap.size (fun _ => True) v0_ (List.replicate m x) ∧ Below w.heap.size w w' := by
  have c1 : decide ((m : Int) < 0) = false := by simp
  have hmk := print_make (P := Try.prog) 22 3 .i64 8 Try.underlying22 infoInt (by decide) m (by omega)
  rw [part_made x] at hmk
  obtain ⟨ad, rfl, hx⟩ := hr0.2.2 (by omega)
  have hx0 : w.cell? ad = some (.int .i64 x) := by have := hx 0 (by omega); simpa [Addr.add] using this
  clear hx hr0
  go_enter Try.func49, Try.ntmps49
  go_wp2_with (first | (go_at_call 96; refine (bits_Mul_sm _ _ _ (by omega) (by omega) (by omega) (by omega)).mono ?_; rintro e w' ⟨rfl, rfl⟩) | (with_reducible refine wpList_copy_splice rfl (.tmp 31) (.tmp 32) 22 22 rfl 3 Try.underlying22 sizeInt _ _ _ _ _ _ rfl rfl w.heap.size 0 (part x 0 m) 3 (heap_alloc_new w _) [.int .i64 x] ?_ ?_ ?_ ?_ w.heap.size w (below_alloc (Below.refl _ _) _) (Nat.le_refl _) ?_))
  · show 1 = min 1 m; omega
  · exact one_src x ad _ (pw_cell_below (below_alloc (Below.refl _ _) _) hx0)
  · rw [part_length _ _ _ (by omega)]; simpa using hm1
  · simp [Value.oneCell']
  intro w1 hh hb
  replace hh : Aside0 (w1.heap[w.heap.size]? = some (.cells (part x 1 m).toArray 3 (0, 0))) := ⟨by rw [hh.out]; rw [← part_splice x 0 1 m (by omega)]; rfl⟩
  have hb := Aside0.mk hb
  clear hmk hx0 c1
  go_wp2
  go_loopg [8] (m - 1) (fun g c wr => ∃ k : Nat, c = .int .i64 k ∧ Aside0 (wr.heap[w.heap.size]? = some (.cells (part x k m).toArray 3 (0, 0))) ∧ Aside0 (Below w.heap.size w wr) ∧ Aside0 (1 ≤ k ∧ k ≤ m ∧ g = m - k))
  case atStart => exact ⟨1, rfl, hh, hb, ⟨by omega, by omega, by omega⟩⟩
  case round =>
    obtain ⟨k, rfl, hh, hb, hk⟩ := hrel
    obtain ⟨hk1, hk2, hg⟩ := hk.out
    by_cases hlt : k < m
    · have c1 : decide ((k : Int) < (m : Int)) = true := by simpa using hlt
      have c2 : decide (k < m) = true := by simpa using hlt
      have hg := Aside0.mk hg
      clear hk
      go_wp2
      obtain ⟨d, hd⟩ : ∃ d, d = min k (m - k) := ⟨_, rfl⟩
      replace hd := Aside0.mk hd
      have hne : ¬ m = k := by omega
      have hne : ¬ m = k := by omega
      obtain ⟨w2, hrun, hh2, hb2⟩ : ∃ w2, (Builtin.copy_ #[22, 22] 3 #[.slice (some ⟨w.heap.size, k, none⟩) (m - k) (m - k), .slice (some ⟨w.heap.size, 0, none⟩) k m]).run Try.prog wr.drew = .ok (.int .i64 d) w2 ∧
          Aside0 (w2.heap[w.heap.size]? = some (.cells (part x (k + d) m).toArray 3 (0, 0))) ∧ Aside0 (Below w.heap.size w w2) := by
        have hd1 : 1 ≤ d := by have := hd.out; omega
        obtain ⟨_, ad', he, hsrc⟩ := copy_src x w.heap.size k d m wr.drew hd.out (by omega) hh.out (by rw [List.length_replicate]; omega)
        cases he
        have hr := run_copy_row (P := Try.prog) wr.drew 22 22 3 3 w.heap.size k (m - k) (m - k) ⟨w.heap.size, 0, none⟩ k m (part x k m).toArray 3 (List.replicate d (.int .i64 x)) Try.underlying22 sizeInt hh.out
          (by rw [List.length_replicate, hd.out]) hsrc (by rw [List.size_toArray, part_length _ _ _ (by omega), List.length_replicate, hd.out]; omega) (by intro v hv; rw [List.eq_of_mem_replicate hv]; rfl)
        rw [List.length_replicate] at hr
        refine ⟨_, hr, ⟨?_⟩, ⟨below_setRow hb.out.drew (Nat.le_refl _) _⟩⟩
        refine (setRow_heap wr.drew w.heap.size (part x k m).toArray _ 3 (0, 0) hh.out).trans ?_
        rw [← part_splice x k d m (by have := hd.out; omega)]
        simp [splice]
      have hw : IntKind.i64.wrap ((k : Int) + (d : Int)) = ((k + d : Nat) : Int) := by rw [IntWalk.i64_in _ ⟨by omega, by have := hd.out; omega⟩]; omega
      have hk := Aside0.mk (And.intro hk1 hlt)
      clear hh hb hk1 hk2
      go_region
      go_wp2
      go_roundg (m - (k + d))
      case measure => have := hg.out; have := hk.out; have := hd.out; omega
      case rel => exact ⟨k + d, by first | rfl | simp, hh2, hb2, ⟨by have := hg.out; have := hk.out; have := hd.out; omega, by have := hg.out; have := hk.out; have := hd.out; omega, rfl⟩⟩
    · have c1 : decide ((k : Int) < (m : Int)) = false := by simpa using hlt
      have c2 : decide (k < m) = false := by simpa using hlt
      obtain rfl : k = m := by omega
      clear hk hk1 hk2 hlt hg
      go_wp2
      go_ret
      refine ⟨_, rfl, toR ?_ (fun _ _ => trivial), hb.out⟩
      rw [part_full] at hh
      refine ⟨by simp [nums], .inr ⟨w.heap.size, k, (nums .i64 (List.replicate k x)).toArray, by simp, Nat.le_refl _, hh.out, by simp, by simp [maxLen]; omega, by simp [nums], by simp [nums]⟩⟩

end Go.Proofs.Ytpnigmcpifilmaa.P
