/- Contract of tensor.from's iterator. -/
import Derived.Test.YtpnigmcpifilmaaA5
import Derived.RangeFuncNested
import Derived.RangeFuncBound
import Derived.RangeFuncCalls
import Derived.RangeFuncLeaves
import Derived.Shelf.Abstract
import Derived.Shelf.RegionOpen
import Derived.OwnWalkIn
import Derived.TacticsInMore
import Derived.LoopNIn
import Derived.LoopIn
namespace Go.Proofs.Ytpnigmcpifilmaa.P
open Go.RowKit Go.Shelf Go.Proofs.YtpnigmcpifilmaaW.PrintWords Go.Proofs.YtpnigmcpifilmaaW.PrintLast Go.Proofs.YtpnigmcpifilmaaW.PrintMore
set_option linter.unusedVariables false
set_option linter.unusedSimpArgs false
attribute [local go_sem] Oper.semAt_some
/-- What a round keeps: every block of cells but g. -/
structure KpG (g : Nat) (W W' : World) : Prop where
  size : W.heap.size ≤ W'.heap.size
  same : ∀ (k : Nat) (o : Obj), k ≠ g → W.heap[k]? = some o → o.isCells = true → W'.heap[k]? = some o
theorem KpG.refl (g : Nat) (W : World) : KpG g W W := ⟨Nat.le_refl _, fun _ _ _ h _ => h⟩
theorem KpG.trans {g : Nat} {A B C : World} (h : KpG g A B) (k : KpG g B C) : KpG g A C := ⟨Nat.le_trans h.size k.size, fun i o hi ho hc => k.same i o hi (h.same i o hi ho hc) hc⟩
theorem KpG.of_below {g : Nat} {W W' : World} (h : Below W.heap.size W W') : KpG g W W' := ⟨h.size, fun k o _ ho _ => (h.block k (Array.getElem?_eq_some_iff.1 ho).1).trans ho⟩
theorem KpG.put {g : Nat} (W : World) (l : Nat) (o o' : Obj) (h : W.heap[l]? = some o) (ho : o.isCells = false) : KpG g W (W.putObj l o') :=
  ⟨by simp, fun k o'' _ hk hc => by
    by_cases e : k = l
    · subst e; rw [h] at hk; cases hk; rw [ho] at hc; cases hc
    · exact (World.putObj_heap_other e).trans hk⟩
theorem KpG.cell {g : Nat} {W W' : World} (h : KpG g W W') {a : Addr} {v : Value} (hc : W.cell? a = some v) (hg : a.block ≠ g) : W'.cell? a = some v := by
  obtain ⟨o, ho, hk⟩ := cells_of_cell hc
  have := h.same _ o hg ho hk
  exact (World.cell?_of_block (this.trans ho.symm)).trans hc
theorem KpG.reads {g : Nat} {W W' : World} (h : KpG g W W') {A : Option Addr} {n : Nat} {xs : List Int} (hc : Kd.C (Kd.int .i64) W A n xs) (hg : ∀ ad, A = some ad → 0 < n → ad.block ≠ g) : Kd.C (Kd.int .i64) W' A n xs := by
  have hr := ofC hc
  refine toC ⟨hr.1, hr.2.1, fun hn => ?_⟩
  obtain ⟨ad, e, hx⟩ := hr.2.2 hn
  exact ⟨ad, e, fun j hj => h.cell (hx j hj) (by have := hg ad e hn; unfold Addr.add; split <;> simpa using this)⟩
theorem KpG.own {g : Nat} {W W' : World} (h : KpG g W W') {base n : Nat} {e : TypeId} {size : Nat} {v : Value} {xs : List Value} (hv : W.ownsRow base e size v n xs) (hg : g < base) : W'.ownsRow base e size v n xs := by
  refine ⟨hv.1, ?_⟩
  rcases hv.2 with h2 | ⟨b, cap, cur, h1, h2, h3, h4⟩
  · exact .inl h2
  · exact .inr ⟨b, cap, cur, h1, h2, h.same b _ (by omega) h3 rfl, h4⟩
theorem grown_of_below {W W' : World} (h : Below W.heap.size W W') : W.grownBy W' none := ⟨h.os, h.tape, h.output, h.size, fun k hk _ => h.block k hk⟩
theorem fence_round : Fence.wide.round = none := rfl
set_option maxRecDepth 100000 in
theorem from1_in (n l Bg Bs gb : Nat) (hn : 1 ≤ n) (Ag : Option Addr) (cg : Nat) (g : List Int) (As : Option Addr) (cs : Nat) (s : List Int) (hs : shapeOk s = true) (hg : shapeOk g = true) (hl : s.length ≤ g.length)
    (J Jx : Nat → World → Prop) (W : World) (hJ : AbidesFrom W.heap.size J)
    (hY : ∀ (p : Nat) W1, J p W1 → p < sizeS g → YieldAt Fence.wide (n - 1) Try.prog l #[.int .i64 (p : Int), .int .i64 (fromS s g p)] W1 fun e W' =>
      (e = .returned (.bool true) ∧ J (p + 1) W' ∧ KpG gb W1 W') ∨ (e = .returned (.bool false) ∧ Jx (p + 1) W'))
    (hgb : gb < W.heap.size) (hBg : W.cell? ⟨Bg, 0, none⟩ = some (.slice Ag g.length cg)) (hBs : W.cell? ⟨Bs, 0, none⟩ = some (.slice As s.length cs)) (hBg2 : Bg ≠ gb) (hBs2 : Bs ≠ gb)
    (hrg : Kd.C (Kd.int .i64) W Ag g.length g) (hrs : Kd.C (Kd.int .i64) W As s.length s) (hgA : ∀ ad, Ag = some ad → 0 < g.length → ad.block ≠ gb) (hsA : ∀ ad, As = some ad → 0 < s.length → ad.block ≠ gb) (h0 : J 0 W) :
    CallsIn Fence.wide n Try.prog 98 #[.func (.yield l) #[] #[], .pointer (some ⟨Bg, 0, none⟩), .pointer (some ⟨Bs, 0, none⟩)] W fun e W' => (∃ v, e = .returned v) ∧
      (J (sizeS g) W' ∨ (∃ k, k ≤ sizeS g ∧ Jx k W')) := by
  have HG := Aside0.mk hrg
  have HS := Aside0.mk hrs
  have HY := Aside0.mk hY
  have HJ := Aside0.mk hJ
  have HA := Aside0.mk (And.intro hgA hsA)
  have H0 := Aside0.mk h0
  have sb := shapeOk_bd hs
  have gbd := shapeOk_bd hg
  have OK := Aside0.mk (And.intro hs (And.intro hg (And.intro sb gbd)))
  have l3 := gbd.1
  have hmk := print_make (P := Try.prog) 22 3 .i64 8 Try.underlying22 infoInt (by decide) g.length (by omega)
  clear hrg hrs hY hJ hgA hsA h0 hs hg sb gbd
  refine callsIn_of_wp Try.func98 rfl trivial ?_ rfl
  simp only [Try.ntmps98, List.size_toArray, List.length_cons, List.length_nil, Nat.reduceAdd, Nat.reduceSub, Array.replicate_succ, Array.replicate_zero, List.push_toArray, List.append_toArray, List.nil_append, List.cons_append]
  have hBg1 := pw_cell_below (below_alloc (Below.refl W.heap.size W) (Obj.cells (madeCells #[.int .i64 0] g.length) 3)) hBg
  have hBs1 := pw_cell_below (below_alloc (Below.refl W.heap.size W) (Obj.cells (madeCells #[.int .i64 0] g.length) 3)) hBs
  have ho : Aside0 ((W.alloc (.cells (madeCells #[.int .i64 0] g.length) 3)).ownsRow W.heap.size 3 1 (.slice (some ⟨W.heap.size, 0, none⟩) g.length g.length) g.length (nums .i64 (List.replicate g.length 0))) :=
    ⟨own_made W W.heap.size 3 .i64 g.length (Nat.le_refl _) (by omega)⟩
  have hb : Aside0 (Below W.heap.size W (W.alloc (.cells (madeCells #[.int .i64 0] g.length) 3))) := ⟨below_alloc (Below.refl _ _) _⟩
  gi_wp2_with fail
  clear hmk hBg1 hBs1
  gi_loopw [5, 6] (fun i st wr => ∃ (j : Int) (k : Nat), i = .int .i64 j ∧ st = .int .i64 (prod (s.reverse.take k)) ∧ Aside0 (wr.ownsRow W.heap.size 3 1 (.slice (some ⟨W.heap.size, 0, none⟩) g.length g.length) g.length (nums .i64 (List.replicate (g.length - k) 0 ++ (stepsL s g).drop (g.length - k)))) ∧
      Aside0 (Below W.heap.size W wr) ∧ Aside0 (j = (s.length : Int) - 1 - k ∧ k ≤ s.length)) (fun i _ _ => (intOf i + 1).toNat)
  case atStart =>
    refine ⟨_, 0, rfl, rfl, ⟨?_⟩, hb, ⟨by omega, by omega⟩⟩
    rw [List.drop_eq_nil_of_le (by rw [stepsL_length _ _ hl]; omega)]
    simpa using ho.out
  case round =>
    clear ho hb
    obtain ⟨j, k, rfl, rfl, ho, hb, hk⟩ := hrel
    obtain ⟨hj, hk1⟩ := hk.out
    have hBg1 := pw_cell_below hb.out hBg
    have hBs1 := pw_cell_below hb.out hBs
    clear hk
    by_cases hlt : k < s.length
    · obtain ⟨m, hm⟩ : ∃ m : Nat, m = s.length - 1 - k := ⟨_, rfl⟩
      obtain rfl : j = (m : Int) := by omega
      have c1 : decide ((0 : Int) ≤ (m : Int)) = true := by simp
      have c2 : decide (0 ≤ m) = true := by simp
      obtain ⟨ad, rfl, hx⟩ := Kd.at_int (Kd.C_below HS.out hb.out) (m : Int) (by omega) (by omega)
      have hrv := rev_at s k hlt
      rw [← hm] at hrv
      rw [hrv] at hx
      simp only [Int.toNat_natCast] at hx
      have hps := prod_take_succ s.reverse k (by simpa using hlt)
      have hpb := prod_revtake s OK.out.1 k
      have hpb2 := prod_revtake s OK.out.1 (k + 1)
      have hst := steps_at s g k hl hlt
      obtain ⟨x, hxe⟩ : ∃ x, s.reverse.getD k 1 = x := ⟨_, rfl⟩
      obtain ⟨y, hye⟩ : ∃ x, prod (s.reverse.take k) = x := ⟨_, rfl⟩
      obtain ⟨z, hze⟩ : ∃ x, prod (s.reverse.take (k + 1)) = x := ⟨_, rfl⟩
      rw [hxe] at hx hps hst
      rw [hye] at hps hpb hst ⊢
      rw [hze] at hps hpb2
      have w1 : IntKind.i64.wrap (y * x) = z := by rw [← hps, wrap_in _ ⟨by omega, by omega⟩]
      have w2 : IntKind.i64.wrap ((m : Int) - 1) = (m : Int) - 1 := by rw [wrap_in _ ⟨by omega, by omega⟩]
      have w3 : IntKind.i64.wrap ((g.length : Int) - (s.length : Int)) = ((g.length - s.length : Nat) : Int) := by rw [wrap_in _ ⟨by omega, by omega⟩]; omega
      have w4 : IntKind.i64.wrap (((g.length - s.length : Nat) : Int) + (m : Int)) = ((g.length - 1 - k : Nat) : Int) := by rw [wrap_in _ ⟨by omega, by omega⟩]; omega
      have b0 : m < s.length := by omega
      have b1 : g.length - 1 - k < g.length := by omega
      have G := Aside0.mk (And.intro hm (And.intro hlt hze))
      have HL := Aside0.mk hl
      by_cases hx1 : 1 < x
      · have d1 : decide ((1 : Int) < x) = true := by simpa using hx1
        rw [if_pos hx1] at hst
        have hown := own_store ho.out ((g.length - 1 - k : Nat) : Int) y
        have hcell := own_at ho.out ((g.length - 1 - k : Nat) : Int) (by omega) (by omega)
        simp only [Int.toNat_natCast] at hown hcell
        obtain ⟨hc1, hc2⟩ := hcell
        have fin : Aside0 ((wr.setCell ⟨W.heap.size, g.length - 1 - k, none⟩ (.int .i64 y)).ownsRow W.heap.size 3 1 (.slice (some ⟨W.heap.size, 0, none⟩) g.length g.length) g.length (nums .i64 (List.replicate (g.length - (k + 1)) 0 ++ (stepsL s g).drop (g.length - (k + 1))))) := ⟨by
          have := join_step (stepsL s g) k y (by rw [stepsL_length _ _ hl]; omega) hst
          rw [stepsL_length _ _ hl] at this
          rw [← this]
          exact hown.1⟩
        have fin2 : Aside0 (Below W.heap.size W (wr.setCell ⟨W.heap.size, g.length - 1 - k, none⟩ (.int .i64 y))) := ⟨hb.out.setCell (p := ⟨W.heap.size, g.length - 1 - k, none⟩) (Nat.le_refl _) _⟩
        have hBs2 := pw_cell_below fin2.out hBs
        have hx2 : (wr.setCell ⟨W.heap.size, g.length - 1 - k, none⟩ (.int .i64 y)).cell? (ad.add m) = some (.int .i64 x) := by
          obtain ⟨ad', e, hx2⟩ := Kd.at_int (Kd.C_below HS.out fin2.out) (m : Int) (by omega) (by omega)
          cases e
          rw [hrv, hxe] at hx2
          simpa using hx2
        clear hst hown hxe hye hze hps hpb hpb2 hrv hm hlt hl hj hk1 hx1 ho hb
        gi_wp2_with fail
        go_roundw
        case rel => exact ⟨_, k + 1, rfl, by rw [G.out.2.2], fin, fin2, ⟨by have := G.out; omega, by have := G.out; omega⟩⟩
        case measure => simp [intOf]
      · have d1 : decide ((1 : Int) < x) = false := by simpa using hx1
        rw [if_neg hx1] at hst
        have fin : Aside0 (wr.ownsRow W.heap.size 3 1 (.slice (some ⟨W.heap.size, 0, none⟩) g.length g.length) g.length (nums .i64 (List.replicate (g.length - (k + 1)) 0 ++ (stepsL s g).drop (g.length - (k + 1))))) := ⟨by
          have := step_same (stepsL s g) k (by rw [stepsL_length _ _ hl]; omega) hst
          rw [stepsL_length _ _ hl] at this
          rw [← this]
          exact ho.out⟩
        clear hst hxe hye hze hps hpb hpb2 hrv hm hlt hl hj hk1 hx1 ho
        gi_wp2_with fail
        go_roundw
        case rel => exact ⟨_, k + 1, rfl, by rw [G.out.2.2], fin, hb, ⟨by have := G.out; omega, by have := G.out; omega⟩⟩
        case measure => simp [intOf]
    · obtain rfl : k = s.length := by omega
      obtain rfl : j = (-1 : Int) := by omega
      have c1 : decide ((0 : Int) ≤ -1) = false := by decide
      have ho2 : Aside0 (wr.ownsRow W.heap.size 3 1 (.slice (some ⟨W.heap.size, 0, none⟩) g.length g.length) g.length (nums .i64 (stepsL s g))) := ⟨by
        have := ho.out; rw [steps_all s g hl] at this; exact this⟩
      clear ho hlt hj hk1
      gi_wp2_with fail
      refine ⟨trivial, ?_⟩
      refine (callsIn_wide.2 (size_sh Ag cg g wr (Kd.C_below HG.out hb.out))).mono ?_
      rintro e w' ⟨rfl, rfl⟩
      gi_wp2_with fail
      obtain ⟨w2, rfl⟩ : ∃ w2, w2 = wr := ⟨_, rfl⟩
      have J2 : Aside0 (J 0 w2) := ⟨HJ.out _ _ _ none H0.out (grown_of_below hb.out) (fun r e => by cases e)⟩
      obtain ⟨N, hN⟩ : ∃ N, N = sizeS g := ⟨_, rfl⟩
      have hN64 : N ≤ 64 := by rw [hN]; exact sizeS_le g
      rw [← hN]
      have NN := Aside0.mk hN
      have HL := Aside0.mk hl
      clear hN hl
      have hszW := hb.out.size
      gi_loopw [46] (fun i wp => ∃ p : Nat, i = .int .i64 p ∧ Aside0 (J p wp) ∧ Aside0 (KpG gb w2 wp) ∧ Aside0 (p ≤ N)) (fun i _ => N - (intOf i).toNat)
      case atStart => exact ⟨0, rfl, J2, ⟨KpG.refl _ _⟩, ⟨by omega⟩⟩
      case round =>
        clear hBg1 hBs1
        obtain ⟨p, rfl, hJp, hkp, hp⟩ := hrel
        have hp1 := hp.out
        have hBg1 := hkp.out.cell (pw_cell_below hb.out hBg) hBg2
        have hBs1 := hkp.out.cell (pw_cell_below hb.out hBs) hBs2
        obtain ⟨w3, rfl⟩ : ∃ w3, w3 = wr := ⟨_, rfl⟩
        have RG : Aside0 (Kd.C (Kd.int .i64) w3 Ag g.length g) := ⟨hkp.out.reads (Kd.C_below HG.out hb.out) HA.out.1⟩
        have SO : Aside0 (w3.ownsRow W.heap.size 3 1 (.slice (some ⟨W.heap.size, 0, none⟩) g.length g.length) g.length (nums .i64 (stepsL s g))) := ⟨hkp.out.own ho2.out hgb⟩
        by_cases hlt : p < N
        · have c1 : decide ((p : Int) < (N : Int)) = true := by simpa using hlt
          have c2 : decide (p < N) = true := by simpa using hlt
          have PL := Aside0.mk hlt
          clear hlt
          gi_wp2_with fail
          refine ⟨trivial, ?_⟩
          refine (callsIn_wide.2 (index_any Ag cg g (p : Int) w3 RG.out (by omega) (by have := PL.out; have := NN.out; omega))).mono ?_
          rintro e w4 ⟨v0, rfl, hr, hb4⟩
          obtain ⟨Ax, cx, rfl⟩ := own_slice (ofR hr)
          have OX := Aside0.mk (ofR hr)
          have B4 := Aside0.mk hb4
          clear hr hb4
          have S4 : Aside0 (w4.ownsRow W.heap.size 3 1 (.slice (some ⟨W.heap.size, 0, none⟩) g.length g.length) g.length (nums .i64 (stepsL s g))) := ⟨(KpG.of_below (g := gb) B4.out).own SO.out hgb⟩
          have J4 : Aside0 (J p w4) := ⟨HJ.out _ _ _ none hJp.out (grown_of_below B4.out) (fun r e => by cases e)⟩
          have lx : (idxL g p).length = g.length := idxL_length _ _
          rw [lx] at OX
          rw [lx]
          clear lx
          have DB := Aside0.mk (dotK_bd s g (p : Int) OK.out.1 OK.out.2.1 (by omega) HL.out)
          gi_wp2_with fail
          gi_loopw [57, 10] (fun i at_ wq => ∃ k : Nat, w4 = wq ∧ i = .int .i64 k ∧ at_ = .int .i64 (dotK (idxL g p) (stepsL s g) k) ∧ Aside0 (k ≤ g.length)) (fun i _ _ => g.length - (intOf i).toNat)
          case atStart => exact ⟨0, rfl, rfl, rfl, ⟨by omega⟩⟩
          case round =>
            obtain ⟨k, rfl, rfl, rfl, hk⟩ := hrel
            have hk1 := hk.out
            by_cases hlt : k < g.length
            · have d1 : decide ((k : Int) < (g.length : Int)) = true := by simpa using hlt
              have d2 : decide (k < g.length) = true := by simpa using hlt
              obtain ⟨ax, rfl, hx⟩ := Kd.at_int (toC (own_reads' OX.out)) (k : Int) (by omega) (by omega)
              have hy := (own_at S4.out (k : Int) (by omega) (by omega)).1
              simp only [Int.toNat_natCast] at hx hy
              have b1 := DB.out k hk1
              have b2 := DB.out (k + 1) hlt
              have b3 := idx_bd g (p : Int) OK.out.2.1 (by omega) k hlt
              have b4 := steps_bd s g OK.out.1 HL.out k hlt
              have e1 : dotK (idxL g (p : Int)) (stepsL s g) (k + 1) = dotK (idxL g (p : Int)) (stepsL s g) k + rd (idxL g (p : Int)) k * rd (stepsL s g) k := rfl
              have b5 : 0 ≤ rd (idxL g (p : Int)) k * rd (stepsL s g) k := Int.mul_nonneg b3.1 b4.1
              obtain ⟨x, hxe⟩ : ∃ x, rd (idxL g (p : Int)) k = x := ⟨_, rfl⟩
              obtain ⟨y, hye⟩ : ∃ x, rd (stepsL s g) k = x := ⟨_, rfl⟩
              obtain ⟨a0, ha0⟩ : ∃ x, dotK (idxL g (p : Int)) (stepsL s g) k = x := ⟨_, rfl⟩
              obtain ⟨a1, ha1⟩ : ∃ x, dotK (idxL g (p : Int)) (stepsL s g) (k + 1) = x := ⟨_, rfl⟩
              obtain ⟨m, hm⟩ : ∃ m, x * y = m := ⟨_, rfl⟩
              rw [hxe] at hx b5 e1
              rw [hye] at hy b5 e1
              rw [ha0] at b1 e1 ⊢
              rw [ha1] at b2 e1
              rw [hm] at b5 e1
              have z1 : IntKind.i64.wrap (x * y) = m := by rw [hm, wrap_in _ ⟨by omega, by omega⟩]
              have z2 : IntKind.i64.wrap (a0 + m) = a1 := by rw [wrap_in _ ⟨by omega, by omega⟩]; omega
              have z3 : IntKind.i64.wrap ((k : Int) + 1) = ((k + 1 : Nat) : Int) := by rw [wrap_in _ ⟨by omega, by omega⟩]; omega
              have A1 := Aside0.mk ha1
              have LT := Aside0.mk hlt
              clear b1 b2 b3 b4 e1 b5 hxe hye ha0 ha1 hm hk hk1
              gi_wp2_with fail
              go_roundw
              case rel => exact ⟨k + 1, by first | rfl | trivial, by first | rfl | simp, by rw [A1.out], ⟨LT.out⟩⟩
              case measure => have := LT.out; simp [intOf]; omega
            · obtain rfl : k = g.length := by omega
              have d1 : decide ((g.length : Int) < (g.length : Int)) = false := by simp
              have d2 : decide (g.length < g.length) = false := by simp
              rw [dot_all s g (p : Int) HL.out]
              obtain ⟨fn, tmps, assign, body, hy, hR⟩ := HY.out p w4 J4.out (by have := PL.out; have := NN.out; omega)
              clear hk hk1 hlt
              have R := Aside0.mk hR
              clear hR
              gi_wp2_with fail
              refine R.out.mono ?_
              rintro e W5 (⟨rfl, hJ5, hk5⟩ | ⟨rfl, hJx5⟩)
              · have w3' : IntKind.i64.wrap ((p : Int) + 1) = ((p + 1 : Nat) : Int) := by rw [wrap_in _ ⟨by omega, by omega⟩]; omega
                have J5 := Aside0.mk hJ5
                have K5 := Aside0.mk hk5
                clear hJ5 hk5
                gi_wp2_with fail
                go_roundw
                case rel => exact ⟨p + 1, by first | rfl | simp, J5, ⟨(hkp.out.trans (KpG.of_below B4.out)).trans K5.out⟩, ⟨PL.out⟩⟩
                case measure => have := PL.out; simp [intOf]; omega
              · have J5 := Aside0.mk hJx5
                clear hJx5
                gi_wp2_with fail
                refine bodyPost_ret (results_none rfl _ _ _) rfl ?_
                exact ⟨⟨_, rfl⟩, .inr ⟨p + 1, by have := PL.out; have := NN.out; omega, J5.out⟩⟩
        · obtain rfl : p = N := by omega
          have c1 : decide ((p : Int) < (p : Int)) = false := by simp
          have c2 : decide (p < p) = false := by simp
          clear hlt hp1
          gi_wp2_with fail
          go_end0
          exact ⟨⟨_, rfl⟩, .inl (by rw [← NN.out]; exact hJp.out)⟩
end Go.Proofs.Ytpnigmcpifilmaa.P
