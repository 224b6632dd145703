/- The walk of ReduceTwice. -/
import Derived.Test.YtpnigmcpifilmaaD10
import Derived.Test.YtpnigmcpifilmaaA19
namespace Go.Proofs.Ytpnigmcpifilmaa.P
open Go.RowKit Go.Shelf Go.Proofs.YtpnigmcpifilmaaW.PrintWords Go.Proofs.YtpnigmcpifilmaaW.PrintLast Go.Proofs.YtpnigmcpifilmaaW.PrintMore
set_option linter.unusedVariables false
set_option linter.unusedSimpArgs false
set_option maxHeartbeats 4000000
set_option maxRecDepth 100000 in
theorem twice_bad1 (A0 : Option Addr) (c0 : Nat) (a1 : List Int) (A1 : Option Addr) (c1 : Nat) (a2 : List Int) (w : World)
    (r0 : Rd w (.slice A0 a1.length c0) a1) (r1 : Rd w (.slice A1 a2.length c1) a2) (i1 : allI a2) (g : fewB a1 a2 = false) :
    Calls Try.prog 10 #[.agg #[.slice A0 a1.length c0, .slice A1 a2.length c1]] w fun e w' => e = .returned (.bool true) ∧ Below w.heap.size w w' := by
  have G1 := Aside0.mk g
  clear g 
  have RD_a0 := Aside0.mk r0
  have RD_a1 := Aside0.mk r1
  have I1 := Aside0.mk i1
  clear r0 r1 i1
  have BW : Aside0 (Below w.heap.size w w) := ⟨Below.refl _ _⟩
  go_enter Try.func10, Try.ntmps10
  obtain ⟨u1, hu1⟩ : ∃ u, (w.alloc (Obj.cells #[.slice A0 a1.length c0, .slice A1 a2.length c1] 24)) = u := ⟨_, rfl⟩
  have hbu1 : Below w.heap.size w u1 := by rw [← hu1]; exact below_fold w [Obj.cells #[.slice A0 a1.length c0, .slice A1 a2.length c1] 24]
  have BX_a : Aside0 (u1.heap[w.heap.size]? = some (.cells #[.slice A0 a1.length c0, .slice A1 a2.length c1] 24 (0, 0))) := ⟨by rw [← hu1]; exact blk_fold w [Obj.cells #[.slice A0 a1.length c0, .slice A1 a2.length c1] 24] 0 _ rfl⟩
  have Hu1 := Aside0.mk hu1
  replace RD_a0 := Aside0.mk (RD_a0.out.below hbu1)
  replace RD_a1 := Aside0.mk (RD_a1.out.below hbu1)
  replace BW := Aside0.mk (below_then BW.out BW.out.size hbu1)
  clear hbu1 hu1
  go_wp2_with fail
  rw [Hu1.out]
  clear Hu1
  refine (awake06 _).mono ?_
  rintro e v2 ⟨rfl, hb⟩
  replace BX_a := Aside0.mk (blk_below BX_a.out hb)
  replace RD_a0 := Aside0.mk (RD_a0.out.below hb)
  replace RD_a1 := Aside0.mk (RD_a1.out.below hb)
  replace BW := Aside0.mk (below_then BW.out BW.out.size hb)
  clear hb
  have q3 : v2.cell? ⟨w.heap.size, 0, none⟩ = some (.slice A0 a1.length c0) := (blk_cell BX_a.out 0).trans rfl
  have q4 : v2.cell? ⟨w.heap.size, 1, none⟩ = some (.slice A1 a2.length c1) := (blk_cell BX_a.out 1).trans rfl
  go_wp2_with fail
  clear q3 q4
  refine (few_r (b := false) (s := a1) (d := a2) G1.out).mono ?_
  rintro e v5 ⟨rfl, hb⟩
  replace BX_a := Aside0.mk (blk_below BX_a.out hb)
  replace RD_a0 := Aside0.mk (RD_a0.out.below hb)
  replace RD_a1 := Aside0.mk (RD_a1.out.below hb)
  replace BW := Aside0.mk (below_then BW.out BW.out.size hb)
  clear hb
  go_wp2_with fail
  go_ret
  exact ⟨rfl, BW.out⟩
set_option maxRecDepth 100000 in
theorem twice_bad2 (A0 : Option Addr) (c0 : Nat) (a1 : List Int) (A1 : Option Addr) (c1 : Nat) (a2 : List Int) (w : World)
    (r0 : Rd w (.slice A0 a1.length c0) a1) (r1 : Rd w (.slice A1 a2.length c1) a2) (i1 : allI a2) (g1 : fewB a1 a2 = true) (g : tOk a1 a2 = false) :
    Calls Try.prog 10 #[.agg #[.slice A0 a1.length c0, .slice A1 a2.length c1]] w fun e w' => e = .returned (.bool true) ∧ Below w.heap.size w w' := by
  have G1 := Aside0.mk g1
  have G2 := Aside0.mk g
  clear g g1
  have RD_a0 := Aside0.mk r0
  have RD_a1 := Aside0.mk r1
  have I1 := Aside0.mk i1
  clear r0 r1 i1
  have BW : Aside0 (Below w.heap.size w w) := ⟨Below.refl _ _⟩
  go_enter Try.func10, Try.ntmps10
  obtain ⟨u1, hu1⟩ : ∃ u, (w.alloc (Obj.cells #[.slice A0 a1.length c0, .slice A1 a2.length c1] 24)) = u := ⟨_, rfl⟩
  have hbu1 : Below w.heap.size w u1 := by rw [← hu1]; exact below_fold w [Obj.cells #[.slice A0 a1.length c0, .slice A1 a2.length c1] 24]
  have BX_a : Aside0 (u1.heap[w.heap.size]? = some (.cells #[.slice A0 a1.length c0, .slice A1 a2.length c1] 24 (0, 0))) := ⟨by rw [← hu1]; exact blk_fold w [Obj.cells #[.slice A0 a1.length c0, .slice A1 a2.length c1] 24] 0 _ rfl⟩
  have Hu1 := Aside0.mk hu1
  replace RD_a0 := Aside0.mk (RD_a0.out.below hbu1)
  replace RD_a1 := Aside0.mk (RD_a1.out.below hbu1)
  replace BW := Aside0.mk (below_then BW.out BW.out.size hbu1)
  clear hbu1 hu1
  go_wp2_with fail
  rw [Hu1.out]
  clear Hu1
  refine (awake06 _).mono ?_
  rintro e v2 ⟨rfl, hb⟩
  replace BX_a := Aside0.mk (blk_below BX_a.out hb)
  replace RD_a0 := Aside0.mk (RD_a0.out.below hb)
  replace RD_a1 := Aside0.mk (RD_a1.out.below hb)
  replace BW := Aside0.mk (below_then BW.out BW.out.size hb)
  clear hb
  have q3 : v2.cell? ⟨w.heap.size, 0, none⟩ = some (.slice A0 a1.length c0) := (blk_cell BX_a.out 0).trans rfl
  have q4 : v2.cell? ⟨w.heap.size, 1, none⟩ = some (.slice A1 a2.length c1) := (blk_cell BX_a.out 1).trans rfl
  go_wp2_with fail
  clear q3 q4
  refine (few_r (b := true) (s := a1) (d := a2) G1.out).mono ?_
  rintro e v5 ⟨rfl, hb⟩
  replace BX_a := Aside0.mk (blk_below BX_a.out hb)
  replace RD_a0 := Aside0.mk (RD_a0.out.below hb)
  replace RD_a1 := Aside0.mk (RD_a1.out.below hb)
  replace BW := Aside0.mk (below_then BW.out BW.out.size hb)
  clear hb
  have q6 : v5.cell? ⟨w.heap.size, 0, none⟩ = some (.slice A0 a1.length c0) := (blk_cell BX_a.out 0).trans rfl
  have q7 : v5.cell? ⟨w.heap.size, 1, none⟩ = some (.slice A1 a2.length c1) := (blk_cell BX_a.out 1).trans rfl
  go_wp2_with fail
  clear q6 q7
  refine (tcheck_r (b := false) G2.out RD_a0.out).mono ?_
  rintro e v8 ⟨rfl, hb⟩
  replace BX_a := Aside0.mk (blk_below BX_a.out hb)
  replace RD_a0 := Aside0.mk (RD_a0.out.below hb)
  replace RD_a1 := Aside0.mk (RD_a1.out.below hb)
  replace BW := Aside0.mk (below_then BW.out BW.out.size hb)
  clear hb
  go_wp2_with fail
  go_ret
  exact ⟨rfl, BW.out⟩
set_option maxRecDepth 100000 in
theorem twice_bad3 (A0 : Option Addr) (c0 : Nat) (a1 : List Int) (A1 : Option Addr) (c1 : Nat) (a2 : List Int) (w : World)
    (r0 : Rd w (.slice A0 a1.length c0) a1) (r1 : Rd w (.slice A1 a2.length c1) a2) (i1 : allI a2) (g1 : fewB a1 a2 = true) (g2 : tOk a1 a2 = true) (g : ¬ a1.length = 2) :
    Calls Try.prog 10 #[.agg #[.slice A0 a1.length c0, .slice A1 a2.length c1]] w fun e w' => e = .returned (.bool true) ∧ Below w.heap.size w w' := by
  have G1 := Aside0.mk g1
  have G2 := Aside0.mk g2
  have n2 : ((a1.length : Int) != 2) = true := by rw [bne_iff_ne]; omega
  clear g g1 g2
  have RD_a0 := Aside0.mk r0
  have RD_a1 := Aside0.mk r1
  have I1 := Aside0.mk i1
  clear r0 r1 i1
  have BW : Aside0 (Below w.heap.size w w) := ⟨Below.refl _ _⟩
  go_enter Try.func10, Try.ntmps10
  obtain ⟨u1, hu1⟩ : ∃ u, (w.alloc (Obj.cells #[.slice A0 a1.length c0, .slice A1 a2.length c1] 24)) = u := ⟨_, rfl⟩
  have hbu1 : Below w.heap.size w u1 := by rw [← hu1]; exact below_fold w [Obj.cells #[.slice A0 a1.length c0, .slice A1 a2.length c1] 24]
  have BX_a : Aside0 (u1.heap[w.heap.size]? = some (.cells #[.slice A0 a1.length c0, .slice A1 a2.length c1] 24 (0, 0))) := ⟨by rw [← hu1]; exact blk_fold w [Obj.cells #[.slice A0 a1.length c0, .slice A1 a2.length c1] 24] 0 _ rfl⟩
  have Hu1 := Aside0.mk hu1
  replace RD_a0 := Aside0.mk (RD_a0.out.below hbu1)
  replace RD_a1 := Aside0.mk (RD_a1.out.below hbu1)
  replace BW := Aside0.mk (below_then BW.out BW.out.size hbu1)
  clear hbu1 hu1
  go_wp2_with fail
  rw [Hu1.out]
  clear Hu1
  refine (awake06 _).mono ?_
  rintro e v2 ⟨rfl, hb⟩
  replace BX_a := Aside0.mk (blk_below BX_a.out hb)
  replace RD_a0 := Aside0.mk (RD_a0.out.below hb)
  replace RD_a1 := Aside0.mk (RD_a1.out.below hb)
  replace BW := Aside0.mk (below_then BW.out BW.out.size hb)
  clear hb
  have q3 : v2.cell? ⟨w.heap.size, 0, none⟩ = some (.slice A0 a1.length c0) := (blk_cell BX_a.out 0).trans rfl
  have q4 : v2.cell? ⟨w.heap.size, 1, none⟩ = some (.slice A1 a2.length c1) := (blk_cell BX_a.out 1).trans rfl
  go_wp2_with fail
  clear q3 q4
  refine (few_r (b := true) (s := a1) (d := a2) G1.out).mono ?_
  rintro e v5 ⟨rfl, hb⟩
  replace BX_a := Aside0.mk (blk_below BX_a.out hb)
  replace RD_a0 := Aside0.mk (RD_a0.out.below hb)
  replace RD_a1 := Aside0.mk (RD_a1.out.below hb)
  replace BW := Aside0.mk (below_then BW.out BW.out.size hb)
  clear hb
  have q6 : v5.cell? ⟨w.heap.size, 0, none⟩ = some (.slice A0 a1.length c0) := (blk_cell BX_a.out 0).trans rfl
  have q7 : v5.cell? ⟨w.heap.size, 1, none⟩ = some (.slice A1 a2.length c1) := (blk_cell BX_a.out 1).trans rfl
  go_wp2_with fail
  clear q6 q7
  refine (tcheck_r (b := true) G2.out RD_a0.out).mono ?_
  rintro e v8 ⟨rfl, hb⟩
  replace BX_a := Aside0.mk (blk_below BX_a.out hb)
  replace RD_a0 := Aside0.mk (RD_a0.out.below hb)
  replace RD_a1 := Aside0.mk (RD_a1.out.below hb)
  replace BW := Aside0.mk (below_then BW.out BW.out.size hb)
  clear hb
  have q9 : v8.cell? ⟨w.heap.size, 0, none⟩ = some (.slice A0 a1.length c0) := (blk_cell BX_a.out 0).trans rfl
  go_wp2_with fail
  clear q9
  go_ret
  exact ⟨rfl, BW.out⟩
set_option maxRecDepth 100000 in
theorem twice_good (A0 : Option Addr) (c0 : Nat) (a1 : List Int) (A1 : Option Addr) (c1 : Nat) (a2 : List Int) (w : World)
    (r0 : Rd w (.slice A0 a1.length c0) a1) (r1 : Rd w (.slice A1 a2.length c1) a2) (i1 : allI a2) (g1 : fewB a1 a2 = true) (g2 : tOk a1 a2 = true) (g3 : a1.length = 2)
    (sa da : List Int) (ea : Int) (ha : sumR a1 a2 0 = ((sa, da), ea)) (sb db : List Int) (eb : Int) (hb : sumR sa da 0 = ((sb, db), eb)) (sc dc : List Int) (ec : Int) (hc : sumR a1 a2 1 = ((sc, dc), ec)) (sd dd : List Int) (ed : Int) (hd : sumR sc dc 0 = ((sd, dd), ed)) (sp dp : List Int) (ep : Int) (hp : maxR a1 a2 0 = ((sp, dp), ep)) (sq dq : List Int) (eq : Int) (hq : maxR sp dp 0 = ((sq, dq), eq)) (su du : List Int) (eu : Int) (hu : maxR a1 a2 1 = ((su, du), eu)) (sv dv : List Int) (ev : Int) (hv : maxR su du 0 = ((sv, dv), ev))
    (ia : allI da) (ic : allI dc) (ip : allI dp) (iu : allI du) (l64 : a2.length ≤ 64)
    (hg : (∀ k : Nat, k < a2.length → -1099511627776 ≤ rd a2 k ∧ rd a2 k ≤ 1099511627776) → (ea = 0 ∧ eb = 0 ∧ ec = 0 ∧ ed = 0 ∧ ep = 0 ∧ eq = 0 ∧ eu = 0 ∧ ev = 0) ∧ sameB sb db sd dd = true ∧ sameB sq dq sv dv = true ∧ sb.length = 0) :
    Calls Try.prog 10 #[.agg #[.slice A0 a1.length c0, .slice A1 a2.length c1]] w fun e w' => e = .returned (.bool true) ∧ Below w.heap.size w w' := by
  have G1 := Aside0.mk g1
  have G2 := Aside0.mk g2
  have Ha := Aside0.mk ha
  have Hb := Aside0.mk hb
  have Hc := Aside0.mk hc
  have Hd := Aside0.mk hd
  have Hp := Aside0.mk hp
  have Hq := Aside0.mk hq
  have Hu := Aside0.mk hu
  have Hv := Aside0.mk hv
  have IA := Aside0.mk ia
  have IC := Aside0.mk ic
  have IP := Aside0.mk ip
  have IU := Aside0.mk iu
  have HG := Aside0.mk hg
  have L64 := Aside0.mk l64
  have n2 : ((a1.length : Int) != 2) = false := by rw [bne_eq_false_iff_eq]; omega
  clear g1 g2 g3 ia ic ip iu hg l64 ha hb hc hd hp hq hu hv
  have RD_a0 := Aside0.mk r0
  have RD_a1 := Aside0.mk r1
  have I1 := Aside0.mk i1
  clear r0 r1 i1
  have BW : Aside0 (Below w.heap.size w w) := ⟨Below.refl _ _⟩
  go_enter Try.func10, Try.ntmps10
  obtain ⟨u1, hu1⟩ : ∃ u, (w.alloc (Obj.cells #[.slice A0 a1.length c0, .slice A1 a2.length c1] 24)) = u := ⟨_, rfl⟩
  have hbu1 : Below w.heap.size w u1 := by rw [← hu1]; exact below_fold w [Obj.cells #[.slice A0 a1.length c0, .slice A1 a2.length c1] 24]
  have BX_a : Aside0 (u1.heap[w.heap.size]? = some (.cells #[.slice A0 a1.length c0, .slice A1 a2.length c1] 24 (0, 0))) := ⟨by rw [← hu1]; exact blk_fold w [Obj.cells #[.slice A0 a1.length c0, .slice A1 a2.length c1] 24] 0 _ rfl⟩
  have Hu1 := Aside0.mk hu1
  replace RD_a0 := Aside0.mk (RD_a0.out.below hbu1)
  replace RD_a1 := Aside0.mk (RD_a1.out.below hbu1)
  replace BW := Aside0.mk (below_then BW.out BW.out.size hbu1)
  clear hbu1 hu1
  go_wp2_with fail
  rw [Hu1.out]
  clear Hu1
  refine (awake06 _).mono ?_
  rintro e v2 ⟨rfl, hb⟩
  replace BX_a := Aside0.mk (blk_below BX_a.out hb)
  replace RD_a0 := Aside0.mk (RD_a0.out.below hb)
  replace RD_a1 := Aside0.mk (RD_a1.out.below hb)
  replace BW := Aside0.mk (below_then BW.out BW.out.size hb)
  clear hb
  have q3 : v2.cell? ⟨w.heap.size, 0, none⟩ = some (.slice A0 a1.length c0) := (blk_cell BX_a.out 0).trans rfl
  have q4 : v2.cell? ⟨w.heap.size, 1, none⟩ = some (.slice A1 a2.length c1) := (blk_cell BX_a.out 1).trans rfl
  go_wp2_with fail
  clear q3 q4
  refine (few_r (b := true) (s := a1) (d := a2) G1.out).mono ?_
  rintro e v5 ⟨rfl, hb⟩
  replace BX_a := Aside0.mk (blk_below BX_a.out hb)
  replace RD_a0 := Aside0.mk (RD_a0.out.below hb)
  replace RD_a1 := Aside0.mk (RD_a1.out.below hb)
  replace BW := Aside0.mk (below_then BW.out BW.out.size hb)
  clear hb
  have q6 : v5.cell? ⟨w.heap.size, 0, none⟩ = some (.slice A0 a1.length c0) := (blk_cell BX_a.out 0).trans rfl
  have q7 : v5.cell? ⟨w.heap.size, 1, none⟩ = some (.slice A1 a2.length c1) := (blk_cell BX_a.out 1).trans rfl
  go_wp2_with fail
  clear q6 q7
  refine (tcheck_r (b := true) G2.out RD_a0.out).mono ?_
  rintro e v8 ⟨rfl, hb⟩
  replace BX_a := Aside0.mk (blk_below BX_a.out hb)
  replace RD_a0 := Aside0.mk (RD_a0.out.below hb)
  replace RD_a1 := Aside0.mk (RD_a1.out.below hb)
  replace BW := Aside0.mk (below_then BW.out BW.out.size hb)
  clear hb
  have q9 : v8.cell? ⟨w.heap.size, 0, none⟩ = some (.slice A0 a1.length c0) := (blk_cell BX_a.out 0).trans rfl
  go_wp2_with fail
  clear q9
  go_loopg [4] (a2.length) (fun g i wr => ∃ k : Nat, i = .int .i64 k ∧ Aside0 (Below v8.heap.size v8 wr) ∧ Aside0 (k ≤ a2.length ∧ g = a2.length - k ∧ ∀ j : Nat, j < k → -1099511627776 ≤ rd a2 j ∧ rd a2 j ≤ 1099511627776))
  case atStart => exact ⟨0, rfl, ⟨Below.refl _ _⟩, ⟨by omega, by omega, fun j hj => by omega⟩⟩
  case round =>
    obtain ⟨k, rfl, hbx, HA⟩ := hrel
    obtain ⟨hk, hg, hall⟩ := HA.out
    obtain ⟨v99, rfl⟩ : ∃ v99, v99 = wr := ⟨_, rfl⟩
    have hb := hbx.out
    replace BX_a := Aside0.mk (blk_below BX_a.out hb)
    replace RD_a0 := Aside0.mk (RD_a0.out.below hb)
    replace RD_a1 := Aside0.mk (RD_a1.out.below hb)
    replace BW := Aside0.mk (below_then BW.out BW.out.size hb)
    clear hb HA
    have l64 := L64.out
    have HALL := Aside0.mk hall
    clear hall
    by_cases hlt : k < a2.length
    case pos =>
      have cc1 : decide ((k : Int) < (a2.length : Int)) = true := by simpa using hlt
      have cc2 : decide (k < a2.length) = true := by simpa using hlt
      obtain ⟨aa, rfl, hcy⟩ := Kd.at_int RD_a1.out.c.1 (k : Int) (by omega) (by omega)
      simp only [Int.toNat_natCast] at hcy
      obtain ⟨y, hye⟩ : ∃ x, rd a2 k = x := ⟨_, rfl⟩
      rw [hye] at hcy
      have qq_a1 : v99.cell? ⟨w.heap.size, 1, none⟩ = some (.slice (some aa) a2.length c1) := (blk_cell BX_a.out 1).trans rfl
      have hwi : IntKind.i64.wrap ((k : Int) + 1) = ((k + 1 : Nat) : Int) := by rw [wrap_in _ ⟨by omega, by omega⟩]; omega
      have G := Aside0.mk (And.intro hg hlt)
      have HY := Aside0.mk hye
      clear hye hk hg l64
      by_cases d1 : y < -1099511627776
      case pos =>
        have e1 : decide (y < -1099511627776) = true := by simpa using d1
        clear d1
        go_wp2_with fail
        go_ret
        exact ⟨rfl, BW.out⟩
      case neg =>
        have e1 : decide (y < -1099511627776) = false := by simpa using d1
        by_cases d2 : 1099511627776 < y
        case pos =>
          have e2 : decide (1099511627776 < y) = true := by simpa using d2
          clear d1 d2
          go_wp2_with fail
          go_ret
          exact ⟨rfl, BW.out⟩
        case neg =>
          have e2 : decide (1099511627776 < y) = false := by simpa using d2
          have HA2 : Aside0 (∀ j : Nat, j < k + 1 → -1099511627776 ≤ rd a2 j ∧ rd a2 j ≤ 1099511627776) := ⟨fun j hj => by
            by_cases e : j = k
            · subst e; rw [HY.out]; omega
            · exact HALL.out j (by omega)⟩
          clear d1 d2
          go_wp2_with fail
          go_roundg (a2.length - (k + 1))
          case measure => have := G.out; omega
          case rel => exact ⟨k + 1, by first | rfl | simp, hbx, ⟨by have := G.out; omega, rfl, HA2.out⟩⟩
    case neg =>
      have cc1 : decide ((k : Int) < (a2.length : Int)) = false := by simpa using hlt
      have cc2 : decide (k < a2.length) = false := by simpa using hlt
      obtain ⟨⟨x1, x2, x3, x4, x5, x6, x7, x8⟩, hs1, hs2, hs3⟩ := HG.out (fun j hj => HALL.out j (by omega))
      have z1 : (ea == 0) = true := by simpa using x1
      have z2 : (eb == 0) = true := by simpa using x2
      have z3 : (ec == 0) = true := by simpa using x3
      have z4 : (ed == 0) = true := by simpa using x4
      have z5 : (ep == 0) = true := by simpa using x5
      have z6 : (eq == 0) = true := by simpa using x6
      have z7 : (eu == 0) = true := by simpa using x7
      have z8 : (ev == 0) = true := by simpa using x8
      have z9 : ((sb.length : Int) == 0) = true := by rw [beq_iff_eq]; omega
      have E1 := Aside0.mk hs1
      have E2 := Aside0.mk hs2
      clear x1 x2 x3 x4 x5 x6 x7 x8 hs1 hs2 hs3 hk hg hlt l64
      have qq_a1 : v99.cell? ⟨w.heap.size, 1, none⟩ = some (.slice A1 a2.length c1) := (blk_cell BX_a.out 1).trans rfl
      have qq_a0 : v99.cell? ⟨w.heap.size, 0, none⟩ = some (.slice A0 a1.length c0) := (blk_cell BX_a.out 0).trans rfl
      go_wp2_with fail
      refine (sum_o 0 Ha.out RD_a0.out RD_a1.out I1.out).mono ?_
      rintro e v10 ⟨Ara, kra, A'ra, k'ra, rfl, r0, r1, hb⟩
      have RD_ra0 := Aside0.mk r0
      have RD_ra1 := Aside0.mk r1
      replace BX_a := Aside0.mk (blk_below BX_a.out hb)
      replace RD_a0 := Aside0.mk (RD_a0.out.below hb)
      replace RD_a1 := Aside0.mk (RD_a1.out.below hb)
      replace BW := Aside0.mk (below_then BW.out BW.out.size hb)
      clear hb r0 r1
      have q11 : (v10.alloc (Obj.cells #[.slice Ara sa.length kra, .slice A'ra da.length k'ra] 24)).cell? ⟨v10.heap.size, 0, none⟩ = some (.slice Ara sa.length kra) := (blk_cell (blk_fold v10 [Obj.cells #[.slice Ara sa.length kra, .slice A'ra da.length k'ra] 24] 0 _ rfl) 0).trans rfl
      have q12 : (v10.alloc (Obj.cells #[.slice Ara sa.length kra, .slice A'ra da.length k'ra] 24)).cell? ⟨v10.heap.size, 1, none⟩ = some (.slice A'ra da.length k'ra) := (blk_cell (blk_fold v10 [Obj.cells #[.slice Ara sa.length kra, .slice A'ra da.length k'ra] 24] 0 _ rfl) 1).trans rfl
      obtain ⟨u13, hu13⟩ : ∃ u, (v10.alloc (Obj.cells #[.slice Ara sa.length kra, .slice A'ra da.length k'ra] 24)) = u := ⟨_, rfl⟩
      have hbu13 : Below v10.heap.size v10 u13 := by rw [← hu13]; exact below_fold v10 [Obj.cells #[.slice Ara sa.length kra, .slice A'ra da.length k'ra] 24]
      have BX_ra : Aside0 (u13.heap[v10.heap.size]? = some (.cells #[.slice Ara sa.length kra, .slice A'ra da.length k'ra] 24 (0, 0))) := ⟨by rw [← hu13]; exact blk_fold v10 [Obj.cells #[.slice Ara sa.length kra, .slice A'ra da.length k'ra] 24] 0 _ rfl⟩
      have Hu13 := Aside0.mk hu13
      replace BX_a := Aside0.mk (blk_below BX_a.out hbu13)
      replace RD_a0 := Aside0.mk (RD_a0.out.below hbu13)
      replace RD_a1 := Aside0.mk (RD_a1.out.below hbu13)
      replace RD_ra0 := Aside0.mk (RD_ra0.out.below hbu13)
      replace RD_ra1 := Aside0.mk (RD_ra1.out.below hbu13)
      replace BW := Aside0.mk (below_then BW.out BW.out.size hbu13)
      clear hbu13 hu13
      go_wp2_with fail
      rw [Hu13.out]
      clear q11 q12
      clear Hu13
      refine (sum_o 0 Hb.out RD_ra0.out RD_ra1.out IA.out).mono ?_
      rintro e v14 ⟨Arb, krb, A'rb, k'rb, rfl, r0, r1, hb⟩
      have RD_rb0 := Aside0.mk r0
      have RD_rb1 := Aside0.mk r1
      replace BX_a := Aside0.mk (blk_below BX_a.out hb)
      replace BX_ra := Aside0.mk (blk_below BX_ra.out hb)
      replace RD_a0 := Aside0.mk (RD_a0.out.below hb)
      replace RD_a1 := Aside0.mk (RD_a1.out.below hb)
      replace RD_ra0 := Aside0.mk (RD_ra0.out.below hb)
      replace RD_ra1 := Aside0.mk (RD_ra1.out.below hb)
      replace BW := Aside0.mk (below_then BW.out BW.out.size hb)
      clear hb r0 r1
      have q15 : (v14.alloc (Obj.cells #[.slice Arb sb.length krb, .slice A'rb db.length k'rb] 24)).cell? ⟨w.heap.size, 0, none⟩ = some (.slice A0 a1.length c0) := (blk_cell (blk_below BX_a.out (below_fold v14 [Obj.cells #[.slice Arb sb.length krb, .slice A'rb db.length k'rb] 24])) 0).trans rfl
      have q16 : (v14.alloc (Obj.cells #[.slice Arb sb.length krb, .slice A'rb db.length k'rb] 24)).cell? ⟨w.heap.size, 1, none⟩ = some (.slice A1 a2.length c1) := (blk_cell (blk_below BX_a.out (below_fold v14 [Obj.cells #[.slice Arb sb.length krb, .slice A'rb db.length k'rb] 24])) 1).trans rfl
      obtain ⟨u17, hu17⟩ : ∃ u, (v14.alloc (Obj.cells #[.slice Arb sb.length krb, .slice A'rb db.length k'rb] 24)) = u := ⟨_, rfl⟩
      have hbu17 : Below v14.heap.size v14 u17 := by rw [← hu17]; exact below_fold v14 [Obj.cells #[.slice Arb sb.length krb, .slice A'rb db.length k'rb] 24]
      have BX_rb : Aside0 (u17.heap[v14.heap.size]? = some (.cells #[.slice Arb sb.length krb, .slice A'rb db.length k'rb] 24 (0, 0))) := ⟨by rw [← hu17]; exact blk_fold v14 [Obj.cells #[.slice Arb sb.length krb, .slice A'rb db.length k'rb] 24] 0 _ rfl⟩
      have Hu17 := Aside0.mk hu17
      replace BX_a := Aside0.mk (blk_below BX_a.out hbu17)
      replace BX_ra := Aside0.mk (blk_below BX_ra.out hbu17)
      replace RD_a0 := Aside0.mk (RD_a0.out.below hbu17)
      replace RD_a1 := Aside0.mk (RD_a1.out.below hbu17)
      replace RD_ra0 := Aside0.mk (RD_ra0.out.below hbu17)
      replace RD_ra1 := Aside0.mk (RD_ra1.out.below hbu17)
      replace RD_rb0 := Aside0.mk (RD_rb0.out.below hbu17)
      replace RD_rb1 := Aside0.mk (RD_rb1.out.below hbu17)
      replace BW := Aside0.mk (below_then BW.out BW.out.size hbu17)
      clear hbu17 hu17
      go_wp2_with fail
      rw [Hu17.out]
      clear q15 q16
      clear Hu17
      refine (sum_o 1 Hc.out RD_a0.out RD_a1.out I1.out).mono ?_
      rintro e v18 ⟨Arc, krc, A'rc, k'rc, rfl, r0, r1, hb⟩
      have RD_rc0 := Aside0.mk r0
      have RD_rc1 := Aside0.mk r1
      replace BX_a := Aside0.mk (blk_below BX_a.out hb)
      replace BX_ra := Aside0.mk (blk_below BX_ra.out hb)
      replace BX_rb := Aside0.mk (blk_below BX_rb.out hb)
      replace RD_a0 := Aside0.mk (RD_a0.out.below hb)
      replace RD_a1 := Aside0.mk (RD_a1.out.below hb)
      replace RD_ra0 := Aside0.mk (RD_ra0.out.below hb)
      replace RD_ra1 := Aside0.mk (RD_ra1.out.below hb)
      replace RD_rb0 := Aside0.mk (RD_rb0.out.below hb)
      replace RD_rb1 := Aside0.mk (RD_rb1.out.below hb)
      replace BW := Aside0.mk (below_then BW.out BW.out.size hb)
      clear hb r0 r1
      have q19 : (v18.alloc (Obj.cells #[.slice Arc sc.length krc, .slice A'rc dc.length k'rc] 24)).cell? ⟨v18.heap.size, 0, none⟩ = some (.slice Arc sc.length krc) := (blk_cell (blk_fold v18 [Obj.cells #[.slice Arc sc.length krc, .slice A'rc dc.length k'rc] 24] 0 _ rfl) 0).trans rfl
      have q20 : (v18.alloc (Obj.cells #[.slice Arc sc.length krc, .slice A'rc dc.length k'rc] 24)).cell? ⟨v18.heap.size, 1, none⟩ = some (.slice A'rc dc.length k'rc) := (blk_cell (blk_fold v18 [Obj.cells #[.slice Arc sc.length krc, .slice A'rc dc.length k'rc] 24] 0 _ rfl) 1).trans rfl
      obtain ⟨u21, hu21⟩ : ∃ u, (v18.alloc (Obj.cells #[.slice Arc sc.length krc, .slice A'rc dc.length k'rc] 24)) = u := ⟨_, rfl⟩
      have hbu21 : Below v18.heap.size v18 u21 := by rw [← hu21]; exact below_fold v18 [Obj.cells #[.slice Arc sc.length krc, .slice A'rc dc.length k'rc] 24]
      have BX_rc : Aside0 (u21.heap[v18.heap.size]? = some (.cells #[.slice Arc sc.length krc, .slice A'rc dc.length k'rc] 24 (0, 0))) := ⟨by rw [← hu21]; exact blk_fold v18 [Obj.cells #[.slice Arc sc.length krc, .slice A'rc dc.length k'rc] 24] 0 _ rfl⟩
      have Hu21 := Aside0.mk hu21
      replace BX_a := Aside0.mk (blk_below BX_a.out hbu21)
      replace BX_ra := Aside0.mk (blk_below BX_ra.out hbu21)
      replace BX_rb := Aside0.mk (blk_below BX_rb.out hbu21)
      replace RD_a0 := Aside0.mk (RD_a0.out.below hbu21)
      replace RD_a1 := Aside0.mk (RD_a1.out.below hbu21)
      replace RD_ra0 := Aside0.mk (RD_ra0.out.below hbu21)
      replace RD_ra1 := Aside0.mk (RD_ra1.out.below hbu21)
      replace RD_rb0 := Aside0.mk (RD_rb0.out.below hbu21)
      replace RD_rb1 := Aside0.mk (RD_rb1.out.below hbu21)
      replace RD_rc0 := Aside0.mk (RD_rc0.out.below hbu21)
      replace RD_rc1 := Aside0.mk (RD_rc1.out.below hbu21)
      replace BW := Aside0.mk (below_then BW.out BW.out.size hbu21)
      clear hbu21 hu21
      go_wp2_with fail
      rw [Hu21.out]
      clear q19 q20
      clear Hu21
      refine (sum_o 0 Hd.out RD_rc0.out RD_rc1.out IC.out).mono ?_
      rintro e v22 ⟨Ard_, krd_, A'rd_, k'rd_, rfl, r0, r1, hb⟩
      have RD_rd_0 := Aside0.mk r0
      have RD_rd_1 := Aside0.mk r1
      replace BX_a := Aside0.mk (blk_below BX_a.out hb)
      replace BX_ra := Aside0.mk (blk_below BX_ra.out hb)
      replace BX_rb := Aside0.mk (blk_below BX_rb.out hb)
      replace BX_rc := Aside0.mk (blk_below BX_rc.out hb)
      replace RD_a0 := Aside0.mk (RD_a0.out.below hb)
      replace RD_a1 := Aside0.mk (RD_a1.out.below hb)
      replace RD_ra0 := Aside0.mk (RD_ra0.out.below hb)
      replace RD_ra1 := Aside0.mk (RD_ra1.out.below hb)
      replace RD_rb0 := Aside0.mk (RD_rb0.out.below hb)
      replace RD_rb1 := Aside0.mk (RD_rb1.out.below hb)
      replace RD_rc0 := Aside0.mk (RD_rc0.out.below hb)
      replace RD_rc1 := Aside0.mk (RD_rc1.out.below hb)
      replace BW := Aside0.mk (below_then BW.out BW.out.size hb)
      clear hb r0 r1
      have q23 : (v22.alloc (Obj.cells #[.slice Ard_ sd.length krd_, .slice A'rd_ dd.length k'rd_] 24)).cell? ⟨w.heap.size, 0, none⟩ = some (.slice A0 a1.length c0) := (blk_cell (blk_below BX_a.out (below_fold v22 [Obj.cells #[.slice Ard_ sd.length krd_, .slice A'rd_ dd.length k'rd_] 24])) 0).trans rfl
      have q24 : (v22.alloc (Obj.cells #[.slice Ard_ sd.length krd_, .slice A'rd_ dd.length k'rd_] 24)).cell? ⟨w.heap.size, 1, none⟩ = some (.slice A1 a2.length c1) := (blk_cell (blk_below BX_a.out (below_fold v22 [Obj.cells #[.slice Ard_ sd.length krd_, .slice A'rd_ dd.length k'rd_] 24])) 1).trans rfl
      obtain ⟨u25, hu25⟩ : ∃ u, (v22.alloc (Obj.cells #[.slice Ard_ sd.length krd_, .slice A'rd_ dd.length k'rd_] 24)) = u := ⟨_, rfl⟩
      have hbu25 : Below v22.heap.size v22 u25 := by rw [← hu25]; exact below_fold v22 [Obj.cells #[.slice Ard_ sd.length krd_, .slice A'rd_ dd.length k'rd_] 24]
      have BX_rd_ : Aside0 (u25.heap[v22.heap.size]? = some (.cells #[.slice Ard_ sd.length krd_, .slice A'rd_ dd.length k'rd_] 24 (0, 0))) := ⟨by rw [← hu25]; exact blk_fold v22 [Obj.cells #[.slice Ard_ sd.length krd_, .slice A'rd_ dd.length k'rd_] 24] 0 _ rfl⟩
      have Hu25 := Aside0.mk hu25
      replace BX_a := Aside0.mk (blk_below BX_a.out hbu25)
      replace BX_ra := Aside0.mk (blk_below BX_ra.out hbu25)
      replace BX_rb := Aside0.mk (blk_below BX_rb.out hbu25)
      replace BX_rc := Aside0.mk (blk_below BX_rc.out hbu25)
      replace RD_a0 := Aside0.mk (RD_a0.out.below hbu25)
      replace RD_a1 := Aside0.mk (RD_a1.out.below hbu25)
      replace RD_ra0 := Aside0.mk (RD_ra0.out.below hbu25)
      replace RD_ra1 := Aside0.mk (RD_ra1.out.below hbu25)
      replace RD_rb0 := Aside0.mk (RD_rb0.out.below hbu25)
      replace RD_rb1 := Aside0.mk (RD_rb1.out.below hbu25)
      replace RD_rc0 := Aside0.mk (RD_rc0.out.below hbu25)
      replace RD_rc1 := Aside0.mk (RD_rc1.out.below hbu25)
      replace RD_rd_0 := Aside0.mk (RD_rd_0.out.below hbu25)
      replace RD_rd_1 := Aside0.mk (RD_rd_1.out.below hbu25)
      replace BW := Aside0.mk (below_then BW.out BW.out.size hbu25)
      clear hbu25 hu25
      go_wp2_with fail
      rw [Hu25.out]
      clear q23 q24
      clear Hu25
      refine (max_o 0 Hp.out RD_a0.out RD_a1.out I1.out).mono ?_
      rintro e v26 ⟨Arp, krp, A'rp, k'rp, rfl, r0, r1, hb⟩
      have RD_rp0 := Aside0.mk r0
      have RD_rp1 := Aside0.mk r1
      replace BX_a := Aside0.mk (blk_below BX_a.out hb)
      replace BX_ra := Aside0.mk (blk_below BX_ra.out hb)
      replace BX_rb := Aside0.mk (blk_below BX_rb.out hb)
      replace BX_rc := Aside0.mk (blk_below BX_rc.out hb)
      replace BX_rd_ := Aside0.mk (blk_below BX_rd_.out hb)
      replace RD_a0 := Aside0.mk (RD_a0.out.below hb)
      replace RD_a1 := Aside0.mk (RD_a1.out.below hb)
      replace RD_ra0 := Aside0.mk (RD_ra0.out.below hb)
      replace RD_ra1 := Aside0.mk (RD_ra1.out.below hb)
      replace RD_rb0 := Aside0.mk (RD_rb0.out.below hb)
      replace RD_rb1 := Aside0.mk (RD_rb1.out.below hb)
      replace RD_rc0 := Aside0.mk (RD_rc0.out.below hb)
      replace RD_rc1 := Aside0.mk (RD_rc1.out.below hb)
      replace RD_rd_0 := Aside0.mk (RD_rd_0.out.below hb)
      replace RD_rd_1 := Aside0.mk (RD_rd_1.out.below hb)
      replace BW := Aside0.mk (below_then BW.out BW.out.size hb)
      clear hb r0 r1
      have q27 : (v26.alloc (Obj.cells #[.slice Arp sp.length krp, .slice A'rp dp.length k'rp] 24)).cell? ⟨v26.heap.size, 0, none⟩ = some (.slice Arp sp.length krp) := (blk_cell (blk_fold v26 [Obj.cells #[.slice Arp sp.length krp, .slice A'rp dp.length k'rp] 24] 0 _ rfl) 0).trans rfl
      have q28 : (v26.alloc (Obj.cells #[.slice Arp sp.length krp, .slice A'rp dp.length k'rp] 24)).cell? ⟨v26.heap.size, 1, none⟩ = some (.slice A'rp dp.length k'rp) := (blk_cell (blk_fold v26 [Obj.cells #[.slice Arp sp.length krp, .slice A'rp dp.length k'rp] 24] 0 _ rfl) 1).trans rfl
      obtain ⟨u29, hu29⟩ : ∃ u, (v26.alloc (Obj.cells #[.slice Arp sp.length krp, .slice A'rp dp.length k'rp] 24)) = u := ⟨_, rfl⟩
      have hbu29 : Below v26.heap.size v26 u29 := by rw [← hu29]; exact below_fold v26 [Obj.cells #[.slice Arp sp.length krp, .slice A'rp dp.length k'rp] 24]
      have BX_rp : Aside0 (u29.heap[v26.heap.size]? = some (.cells #[.slice Arp sp.length krp, .slice A'rp dp.length k'rp] 24 (0, 0))) := ⟨by rw [← hu29]; exact blk_fold v26 [Obj.cells #[.slice Arp sp.length krp, .slice A'rp dp.length k'rp] 24] 0 _ rfl⟩
      have Hu29 := Aside0.mk hu29
      replace BX_a := Aside0.mk (blk_below BX_a.out hbu29)
      replace BX_ra := Aside0.mk (blk_below BX_ra.out hbu29)
      replace BX_rb := Aside0.mk (blk_below BX_rb.out hbu29)
      replace BX_rc := Aside0.mk (blk_below BX_rc.out hbu29)
      replace BX_rd_ := Aside0.mk (blk_below BX_rd_.out hbu29)
      replace RD_a0 := Aside0.mk (RD_a0.out.below hbu29)
      replace RD_a1 := Aside0.mk (RD_a1.out.below hbu29)
      replace RD_ra0 := Aside0.mk (RD_ra0.out.below hbu29)
      replace RD_ra1 := Aside0.mk (RD_ra1.out.below hbu29)
      replace RD_rb0 := Aside0.mk (RD_rb0.out.below hbu29)
      replace RD_rb1 := Aside0.mk (RD_rb1.out.below hbu29)
      replace RD_rc0 := Aside0.mk (RD_rc0.out.below hbu29)
      replace RD_rc1 := Aside0.mk (RD_rc1.out.below hbu29)
      replace RD_rd_0 := Aside0.mk (RD_rd_0.out.below hbu29)
      replace RD_rd_1 := Aside0.mk (RD_rd_1.out.below hbu29)
      replace RD_rp0 := Aside0.mk (RD_rp0.out.below hbu29)
      replace RD_rp1 := Aside0.mk (RD_rp1.out.below hbu29)
      replace BW := Aside0.mk (below_then BW.out BW.out.size hbu29)
      clear hbu29 hu29
      go_wp2_with fail
      rw [Hu29.out]
      clear q27 q28
      clear Hu29
      refine (max_o 0 Hq.out RD_rp0.out RD_rp1.out IP.out).mono ?_
      rintro e v30 ⟨Arq, krq, A'rq, k'rq, rfl, r0, r1, hb⟩
      have RD_rq0 := Aside0.mk r0
      have RD_rq1 := Aside0.mk r1
      replace BX_a := Aside0.mk (blk_below BX_a.out hb)
      replace BX_ra := Aside0.mk (blk_below BX_ra.out hb)
      replace BX_rb := Aside0.mk (blk_below BX_rb.out hb)
      replace BX_rc := Aside0.mk (blk_below BX_rc.out hb)
      replace BX_rd_ := Aside0.mk (blk_below BX_rd_.out hb)
      replace BX_rp := Aside0.mk (blk_below BX_rp.out hb)
      replace RD_a0 := Aside0.mk (RD_a0.out.below hb)
      replace RD_a1 := Aside0.mk (RD_a1.out.below hb)
      replace RD_ra0 := Aside0.mk (RD_ra0.out.below hb)
      replace RD_ra1 := Aside0.mk (RD_ra1.out.below hb)
      replace RD_rb0 := Aside0.mk (RD_rb0.out.below hb)
      replace RD_rb1 := Aside0.mk (RD_rb1.out.below hb)
      replace RD_rc0 := Aside0.mk (RD_rc0.out.below hb)
      replace RD_rc1 := Aside0.mk (RD_rc1.out.below hb)
      replace RD_rd_0 := Aside0.mk (RD_rd_0.out.below hb)
      replace RD_rd_1 := Aside0.mk (RD_rd_1.out.below hb)
      replace RD_rp0 := Aside0.mk (RD_rp0.out.below hb)
      replace RD_rp1 := Aside0.mk (RD_rp1.out.below hb)
      replace BW := Aside0.mk (below_then BW.out BW.out.size hb)
      clear hb r0 r1
      have q31 : (v30.alloc (Obj.cells #[.slice Arq sq.length krq, .slice A'rq dq.length k'rq] 24)).cell? ⟨w.heap.size, 0, none⟩ = some (.slice A0 a1.length c0) := (blk_cell (blk_below BX_a.out (below_fold v30 [Obj.cells #[.slice Arq sq.length krq, .slice A'rq dq.length k'rq] 24])) 0).trans rfl
      have q32 : (v30.alloc (Obj.cells #[.slice Arq sq.length krq, .slice A'rq dq.length k'rq] 24)).cell? ⟨w.heap.size, 1, none⟩ = some (.slice A1 a2.length c1) := (blk_cell (blk_below BX_a.out (below_fold v30 [Obj.cells #[.slice Arq sq.length krq, .slice A'rq dq.length k'rq] 24])) 1).trans rfl
      obtain ⟨u33, hu33⟩ : ∃ u, (v30.alloc (Obj.cells #[.slice Arq sq.length krq, .slice A'rq dq.length k'rq] 24)) = u := ⟨_, rfl⟩
      have hbu33 : Below v30.heap.size v30 u33 := by rw [← hu33]; exact below_fold v30 [Obj.cells #[.slice Arq sq.length krq, .slice A'rq dq.length k'rq] 24]
      have BX_rq : Aside0 (u33.heap[v30.heap.size]? = some (.cells #[.slice Arq sq.length krq, .slice A'rq dq.length k'rq] 24 (0, 0))) := ⟨by rw [← hu33]; exact blk_fold v30 [Obj.cells #[.slice Arq sq.length krq, .slice A'rq dq.length k'rq] 24] 0 _ rfl⟩
      have Hu33 := Aside0.mk hu33
      replace BX_a := Aside0.mk (blk_below BX_a.out hbu33)
      replace BX_ra := Aside0.mk (blk_below BX_ra.out hbu33)
      replace BX_rb := Aside0.mk (blk_below BX_rb.out hbu33)
      replace BX_rc := Aside0.mk (blk_below BX_rc.out hbu33)
      replace BX_rd_ := Aside0.mk (blk_below BX_rd_.out hbu33)
      replace BX_rp := Aside0.mk (blk_below BX_rp.out hbu33)
      replace RD_a0 := Aside0.mk (RD_a0.out.below hbu33)
      replace RD_a1 := Aside0.mk (RD_a1.out.below hbu33)
      replace RD_ra0 := Aside0.mk (RD_ra0.out.below hbu33)
      replace RD_ra1 := Aside0.mk (RD_ra1.out.below hbu33)
      replace RD_rb0 := Aside0.mk (RD_rb0.out.below hbu33)
      replace RD_rb1 := Aside0.mk (RD_rb1.out.below hbu33)
      replace RD_rc0 := Aside0.mk (RD_rc0.out.below hbu33)
      replace RD_rc1 := Aside0.mk (RD_rc1.out.below hbu33)
      replace RD_rd_0 := Aside0.mk (RD_rd_0.out.below hbu33)
      replace RD_rd_1 := Aside0.mk (RD_rd_1.out.below hbu33)
      replace RD_rp0 := Aside0.mk (RD_rp0.out.below hbu33)
      replace RD_rp1 := Aside0.mk (RD_rp1.out.below hbu33)
      replace RD_rq0 := Aside0.mk (RD_rq0.out.below hbu33)
      replace RD_rq1 := Aside0.mk (RD_rq1.out.below hbu33)
      replace BW := Aside0.mk (below_then BW.out BW.out.size hbu33)
      clear hbu33 hu33
      go_wp2_with fail
      rw [Hu33.out]
      clear q31 q32
      clear Hu33
      refine (max_o 1 Hu.out RD_a0.out RD_a1.out I1.out).mono ?_
      rintro e v34 ⟨Aru, kru, A'ru, k'ru, rfl, r0, r1, hb⟩
      have RD_ru0 := Aside0.mk r0
      have RD_ru1 := Aside0.mk r1
      replace BX_a := Aside0.mk (blk_below BX_a.out hb)
      replace BX_ra := Aside0.mk (blk_below BX_ra.out hb)
      replace BX_rb := Aside0.mk (blk_below BX_rb.out hb)
      replace BX_rc := Aside0.mk (blk_below BX_rc.out hb)
      replace BX_rd_ := Aside0.mk (blk_below BX_rd_.out hb)
      replace BX_rp := Aside0.mk (blk_below BX_rp.out hb)
      replace BX_rq := Aside0.mk (blk_below BX_rq.out hb)
      replace RD_a0 := Aside0.mk (RD_a0.out.below hb)
      replace RD_a1 := Aside0.mk (RD_a1.out.below hb)
      replace RD_ra0 := Aside0.mk (RD_ra0.out.below hb)
      replace RD_ra1 := Aside0.mk (RD_ra1.out.below hb)
      replace RD_rb0 := Aside0.mk (RD_rb0.out.below hb)
      replace RD_rb1 := Aside0.mk (RD_rb1.out.below hb)
      replace RD_rc0 := Aside0.mk (RD_rc0.out.below hb)
      replace RD_rc1 := Aside0.mk (RD_rc1.out.below hb)
      replace RD_rd_0 := Aside0.mk (RD_rd_0.out.below hb)
      replace RD_rd_1 := Aside0.mk (RD_rd_1.out.below hb)
      replace RD_rp0 := Aside0.mk (RD_rp0.out.below hb)
      replace RD_rp1 := Aside0.mk (RD_rp1.out.below hb)
      replace RD_rq0 := Aside0.mk (RD_rq0.out.below hb)
      replace RD_rq1 := Aside0.mk (RD_rq1.out.below hb)
      replace BW := Aside0.mk (below_then BW.out BW.out.size hb)
      clear hb r0 r1
      have q35 : (v34.alloc (Obj.cells #[.slice Aru su.length kru, .slice A'ru du.length k'ru] 24)).cell? ⟨v34.heap.size, 0, none⟩ = some (.slice Aru su.length kru) := (blk_cell (blk_fold v34 [Obj.cells #[.slice Aru su.length kru, .slice A'ru du.length k'ru] 24] 0 _ rfl) 0).trans rfl
      have q36 : (v34.alloc (Obj.cells #[.slice Aru su.length kru, .slice A'ru du.length k'ru] 24)).cell? ⟨v34.heap.size, 1, none⟩ = some (.slice A'ru du.length k'ru) := (blk_cell (blk_fold v34 [Obj.cells #[.slice Aru su.length kru, .slice A'ru du.length k'ru] 24] 0 _ rfl) 1).trans rfl
      obtain ⟨u37, hu37⟩ : ∃ u, (v34.alloc (Obj.cells #[.slice Aru su.length kru, .slice A'ru du.length k'ru] 24)) = u := ⟨_, rfl⟩
      have hbu37 : Below v34.heap.size v34 u37 := by rw [← hu37]; exact below_fold v34 [Obj.cells #[.slice Aru su.length kru, .slice A'ru du.length k'ru] 24]
      have BX_ru : Aside0 (u37.heap[v34.heap.size]? = some (.cells #[.slice Aru su.length kru, .slice A'ru du.length k'ru] 24 (0, 0))) := ⟨by rw [← hu37]; exact blk_fold v34 [Obj.cells #[.slice Aru su.length kru, .slice A'ru du.length k'ru] 24] 0 _ rfl⟩
      have Hu37 := Aside0.mk hu37
      replace BX_a := Aside0.mk (blk_below BX_a.out hbu37)
      replace BX_ra := Aside0.mk (blk_below BX_ra.out hbu37)
      replace BX_rb := Aside0.mk (blk_below BX_rb.out hbu37)
      replace BX_rc := Aside0.mk (blk_below BX_rc.out hbu37)
      replace BX_rd_ := Aside0.mk (blk_below BX_rd_.out hbu37)
      replace BX_rp := Aside0.mk (blk_below BX_rp.out hbu37)
      replace BX_rq := Aside0.mk (blk_below BX_rq.out hbu37)
      replace RD_a0 := Aside0.mk (RD_a0.out.below hbu37)
      replace RD_a1 := Aside0.mk (RD_a1.out.below hbu37)
      replace RD_ra0 := Aside0.mk (RD_ra0.out.below hbu37)
      replace RD_ra1 := Aside0.mk (RD_ra1.out.below hbu37)
      replace RD_rb0 := Aside0.mk (RD_rb0.out.below hbu37)
      replace RD_rb1 := Aside0.mk (RD_rb1.out.below hbu37)
      replace RD_rc0 := Aside0.mk (RD_rc0.out.below hbu37)
      replace RD_rc1 := Aside0.mk (RD_rc1.out.below hbu37)
      replace RD_rd_0 := Aside0.mk (RD_rd_0.out.below hbu37)
      replace RD_rd_1 := Aside0.mk (RD_rd_1.out.below hbu37)
      replace RD_rp0 := Aside0.mk (RD_rp0.out.below hbu37)
      replace RD_rp1 := Aside0.mk (RD_rp1.out.below hbu37)
      replace RD_rq0 := Aside0.mk (RD_rq0.out.below hbu37)
      replace RD_rq1 := Aside0.mk (RD_rq1.out.below hbu37)
      replace RD_ru0 := Aside0.mk (RD_ru0.out.below hbu37)
      replace RD_ru1 := Aside0.mk (RD_ru1.out.below hbu37)
      replace BW := Aside0.mk (below_then BW.out BW.out.size hbu37)
      clear hbu37 hu37
      go_wp2_with fail
      rw [Hu37.out]
      clear q35 q36
      clear Hu37
      refine (max_o 0 Hv.out RD_ru0.out RD_ru1.out IU.out).mono ?_
      rintro e v38 ⟨Arv, krv, A'rv, k'rv, rfl, r0, r1, hb⟩
      have RD_rv0 := Aside0.mk r0
      have RD_rv1 := Aside0.mk r1
      replace BX_a := Aside0.mk (blk_below BX_a.out hb)
      replace BX_ra := Aside0.mk (blk_below BX_ra.out hb)
      replace BX_rb := Aside0.mk (blk_below BX_rb.out hb)
      replace BX_rc := Aside0.mk (blk_below BX_rc.out hb)
      replace BX_rd_ := Aside0.mk (blk_below BX_rd_.out hb)
      replace BX_rp := Aside0.mk (blk_below BX_rp.out hb)
      replace BX_rq := Aside0.mk (blk_below BX_rq.out hb)
      replace BX_ru := Aside0.mk (blk_below BX_ru.out hb)
      replace RD_a0 := Aside0.mk (RD_a0.out.below hb)
      replace RD_a1 := Aside0.mk (RD_a1.out.below hb)
      replace RD_ra0 := Aside0.mk (RD_ra0.out.below hb)
      replace RD_ra1 := Aside0.mk (RD_ra1.out.below hb)
      replace RD_rb0 := Aside0.mk (RD_rb0.out.below hb)
      replace RD_rb1 := Aside0.mk (RD_rb1.out.below hb)
      replace RD_rc0 := Aside0.mk (RD_rc0.out.below hb)
      replace RD_rc1 := Aside0.mk (RD_rc1.out.below hb)
      replace RD_rd_0 := Aside0.mk (RD_rd_0.out.below hb)
      replace RD_rd_1 := Aside0.mk (RD_rd_1.out.below hb)
      replace RD_rp0 := Aside0.mk (RD_rp0.out.below hb)
      replace RD_rp1 := Aside0.mk (RD_rp1.out.below hb)
      replace RD_rq0 := Aside0.mk (RD_rq0.out.below hb)
      replace RD_rq1 := Aside0.mk (RD_rq1.out.below hb)
      replace RD_ru0 := Aside0.mk (RD_ru0.out.below hb)
      replace RD_ru1 := Aside0.mk (RD_ru1.out.below hb)
      replace BW := Aside0.mk (below_then BW.out BW.out.size hb)
      clear hb r0 r1
      have q39 : (v38.alloc (Obj.cells #[.slice Arv sv.length krv, .slice A'rv dv.length k'rv] 24)).cell? ⟨v14.heap.size, 0, none⟩ = some (.slice Arb sb.length krb) := (blk_cell (blk_below BX_rb.out (below_fold v38 [Obj.cells #[.slice Arv sv.length krv, .slice A'rv dv.length k'rv] 24])) 0).trans rfl
      have q40 : (v38.alloc (Obj.cells #[.slice Arv sv.length krv, .slice A'rv dv.length k'rv] 24)).cell? ⟨v14.heap.size, 1, none⟩ = some (.slice A'rb db.length k'rb) := (blk_cell (blk_below BX_rb.out (below_fold v38 [Obj.cells #[.slice Arv sv.length krv, .slice A'rv dv.length k'rv] 24])) 1).trans rfl
      have q41 : (v38.alloc (Obj.cells #[.slice Arv sv.length krv, .slice A'rv dv.length k'rv] 24)).cell? ⟨v22.heap.size, 0, none⟩ = some (.slice Ard_ sd.length krd_) := (blk_cell (blk_below BX_rd_.out (below_fold v38 [Obj.cells #[.slice Arv sv.length krv, .slice A'rv dv.length k'rv] 24])) 0).trans rfl
      have q42 : (v38.alloc (Obj.cells #[.slice Arv sv.length krv, .slice A'rv dv.length k'rv] 24)).cell? ⟨v22.heap.size, 1, none⟩ = some (.slice A'rd_ dd.length k'rd_) := (blk_cell (blk_below BX_rd_.out (below_fold v38 [Obj.cells #[.slice Arv sv.length krv, .slice A'rv dv.length k'rv] 24])) 1).trans rfl
      obtain ⟨u43, hu43⟩ : ∃ u, (v38.alloc (Obj.cells #[.slice Arv sv.length krv, .slice A'rv dv.length k'rv] 24)) = u := ⟨_, rfl⟩
      have hbu43 : Below v38.heap.size v38 u43 := by rw [← hu43]; exact below_fold v38 [Obj.cells #[.slice Arv sv.length krv, .slice A'rv dv.length k'rv] 24]
      have BX_rv : Aside0 (u43.heap[v38.heap.size]? = some (.cells #[.slice Arv sv.length krv, .slice A'rv dv.length k'rv] 24 (0, 0))) := ⟨by rw [← hu43]; exact blk_fold v38 [Obj.cells #[.slice Arv sv.length krv, .slice A'rv dv.length k'rv] 24] 0 _ rfl⟩
      have Hu43 := Aside0.mk hu43
      replace BX_a := Aside0.mk (blk_below BX_a.out hbu43)
      replace BX_ra := Aside0.mk (blk_below BX_ra.out hbu43)
      replace BX_rb := Aside0.mk (blk_below BX_rb.out hbu43)
      replace BX_rc := Aside0.mk (blk_below BX_rc.out hbu43)
      replace BX_rd_ := Aside0.mk (blk_below BX_rd_.out hbu43)
      replace BX_rp := Aside0.mk (blk_below BX_rp.out hbu43)
      replace BX_rq := Aside0.mk (blk_below BX_rq.out hbu43)
      replace BX_ru := Aside0.mk (blk_below BX_ru.out hbu43)
      replace RD_a0 := Aside0.mk (RD_a0.out.below hbu43)
      replace RD_a1 := Aside0.mk (RD_a1.out.below hbu43)
      replace RD_ra0 := Aside0.mk (RD_ra0.out.below hbu43)
      replace RD_ra1 := Aside0.mk (RD_ra1.out.below hbu43)
      replace RD_rb0 := Aside0.mk (RD_rb0.out.below hbu43)
      replace RD_rb1 := Aside0.mk (RD_rb1.out.below hbu43)
      replace RD_rc0 := Aside0.mk (RD_rc0.out.below hbu43)
      replace RD_rc1 := Aside0.mk (RD_rc1.out.below hbu43)
      replace RD_rd_0 := Aside0.mk (RD_rd_0.out.below hbu43)
      replace RD_rd_1 := Aside0.mk (RD_rd_1.out.below hbu43)
      replace RD_rp0 := Aside0.mk (RD_rp0.out.below hbu43)
      replace RD_rp1 := Aside0.mk (RD_rp1.out.below hbu43)
      replace RD_rq0 := Aside0.mk (RD_rq0.out.below hbu43)
      replace RD_rq1 := Aside0.mk (RD_rq1.out.below hbu43)
      replace RD_ru0 := Aside0.mk (RD_ru0.out.below hbu43)
      replace RD_ru1 := Aside0.mk (RD_ru1.out.below hbu43)
      replace RD_rv0 := Aside0.mk (RD_rv0.out.below hbu43)
      replace RD_rv1 := Aside0.mk (RD_rv1.out.below hbu43)
      replace BW := Aside0.mk (below_then BW.out BW.out.size hbu43)
      clear hbu43 hu43
      go_wp2_with fail
      rw [Hu43.out]
      clear q39 q40 q41 q42
      clear Hu43
      refine (same_r (b := true) E1.out RD_rb0.out RD_rb1.out RD_rd_0.out RD_rd_1.out).mono ?_
      rintro e v44 ⟨rfl, hb⟩
      replace BX_a := Aside0.mk (blk_below BX_a.out hb)
      replace BX_ra := Aside0.mk (blk_below BX_ra.out hb)
      replace BX_rb := Aside0.mk (blk_below BX_rb.out hb)
      replace BX_rc := Aside0.mk (blk_below BX_rc.out hb)
      replace BX_rd_ := Aside0.mk (blk_below BX_rd_.out hb)
      replace BX_rp := Aside0.mk (blk_below BX_rp.out hb)
      replace BX_rq := Aside0.mk (blk_below BX_rq.out hb)
      replace BX_ru := Aside0.mk (blk_below BX_ru.out hb)
      replace BX_rv := Aside0.mk (blk_below BX_rv.out hb)
      replace RD_a0 := Aside0.mk (RD_a0.out.below hb)
      replace RD_a1 := Aside0.mk (RD_a1.out.below hb)
      replace RD_ra0 := Aside0.mk (RD_ra0.out.below hb)
      replace RD_ra1 := Aside0.mk (RD_ra1.out.below hb)
      replace RD_rb0 := Aside0.mk (RD_rb0.out.below hb)
      replace RD_rb1 := Aside0.mk (RD_rb1.out.below hb)
      replace RD_rc0 := Aside0.mk (RD_rc0.out.below hb)
      replace RD_rc1 := Aside0.mk (RD_rc1.out.below hb)
      replace RD_rd_0 := Aside0.mk (RD_rd_0.out.below hb)
      replace RD_rd_1 := Aside0.mk (RD_rd_1.out.below hb)
      replace RD_rp0 := Aside0.mk (RD_rp0.out.below hb)
      replace RD_rp1 := Aside0.mk (RD_rp1.out.below hb)
      replace RD_rq0 := Aside0.mk (RD_rq0.out.below hb)
      replace RD_rq1 := Aside0.mk (RD_rq1.out.below hb)
      replace RD_ru0 := Aside0.mk (RD_ru0.out.below hb)
      replace RD_ru1 := Aside0.mk (RD_ru1.out.below hb)
      replace RD_rv0 := Aside0.mk (RD_rv0.out.below hb)
      replace RD_rv1 := Aside0.mk (RD_rv1.out.below hb)
      replace BW := Aside0.mk (below_then BW.out BW.out.size hb)
      clear hb
      have q45 : v44.cell? ⟨v30.heap.size, 0, none⟩ = some (.slice Arq sq.length krq) := (blk_cell BX_rq.out 0).trans rfl
      have q46 : v44.cell? ⟨v30.heap.size, 1, none⟩ = some (.slice A'rq dq.length k'rq) := (blk_cell BX_rq.out 1).trans rfl
      have q47 : v44.cell? ⟨v38.heap.size, 0, none⟩ = some (.slice Arv sv.length krv) := (blk_cell BX_rv.out 0).trans rfl
      have q48 : v44.cell? ⟨v38.heap.size, 1, none⟩ = some (.slice A'rv dv.length k'rv) := (blk_cell BX_rv.out 1).trans rfl
      go_wp2_with fail
      clear q45 q46 q47 q48
      refine (same_r (b := true) E2.out RD_rq0.out RD_rq1.out RD_rv0.out RD_rv1.out).mono ?_
      rintro e v49 ⟨rfl, hb⟩
      replace BX_a := Aside0.mk (blk_below BX_a.out hb)
      replace BX_ra := Aside0.mk (blk_below BX_ra.out hb)
      replace BX_rb := Aside0.mk (blk_below BX_rb.out hb)
      replace BX_rc := Aside0.mk (blk_below BX_rc.out hb)
      replace BX_rd_ := Aside0.mk (blk_below BX_rd_.out hb)
      replace BX_rp := Aside0.mk (blk_below BX_rp.out hb)
      replace BX_rq := Aside0.mk (blk_below BX_rq.out hb)
      replace BX_ru := Aside0.mk (blk_below BX_ru.out hb)
      replace BX_rv := Aside0.mk (blk_below BX_rv.out hb)
      replace RD_a0 := Aside0.mk (RD_a0.out.below hb)
      replace RD_a1 := Aside0.mk (RD_a1.out.below hb)
      replace RD_ra0 := Aside0.mk (RD_ra0.out.below hb)
      replace RD_ra1 := Aside0.mk (RD_ra1.out.below hb)
      replace RD_rb0 := Aside0.mk (RD_rb0.out.below hb)
      replace RD_rb1 := Aside0.mk (RD_rb1.out.below hb)
      replace RD_rc0 := Aside0.mk (RD_rc0.out.below hb)
      replace RD_rc1 := Aside0.mk (RD_rc1.out.below hb)
      replace RD_rd_0 := Aside0.mk (RD_rd_0.out.below hb)
      replace RD_rd_1 := Aside0.mk (RD_rd_1.out.below hb)
      replace RD_rp0 := Aside0.mk (RD_rp0.out.below hb)
      replace RD_rp1 := Aside0.mk (RD_rp1.out.below hb)
      replace RD_rq0 := Aside0.mk (RD_rq0.out.below hb)
      replace RD_rq1 := Aside0.mk (RD_rq1.out.below hb)
      replace RD_ru0 := Aside0.mk (RD_ru0.out.below hb)
      replace RD_ru1 := Aside0.mk (RD_ru1.out.below hb)
      replace RD_rv0 := Aside0.mk (RD_rv0.out.below hb)
      replace RD_rv1 := Aside0.mk (RD_rv1.out.below hb)
      replace BW := Aside0.mk (below_then BW.out BW.out.size hb)
      clear hb
      have q50 : v49.cell? ⟨v14.heap.size, 0, none⟩ = some (.slice Arb sb.length krb) := (blk_cell BX_rb.out 0).trans rfl
      go_wp2_with fail
      clear q50
      go_ret
      exact ⟨rfl, BW.out⟩
end Go.Proofs.Ytpnigmcpifilmaa.P
