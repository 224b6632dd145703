/- The walk of ElemOnes. -/
import Derived.Deep.QuietTactic
import Derived.BigQuiet
import Derived.Test.YtpnigmcpifilmaaA19
namespace Go.Proofs.Ytpnigmcpifilmaa.P
open Go.RowKit Go.Shelf Go.Proofs.YtpnigmcpifilmaaW.PrintWords Go.Proofs.YtpnigmcpifilmaaW.PrintLast Go.Proofs.YtpnigmcpifilmaaW.PrintMore
set_option linter.unusedVariables false
set_option linter.unusedSimpArgs false
set_option maxHeartbeats 4000000
set_option maxRecDepth 100000 in
theorem ones_bad1 (A0 : Option Addr) (c0 : Nat) (a1 : List Int) (A1 : Option Addr) (c1 : Nat) (a2 : List Int) (w : World)
    (r0 : Rd w (.slice A0 a1.length c0) a1) (r1 : Rd w (.slice A1 a2.length c1) a2) (i1 : allI a2) (g : fewB a1 a2 = false) :
    Calls Try.prog 5 #[.agg #[.slice A0 a1.length c0, .slice A1 a2.length c1]] w fun e w' => e = .returned (.bool true) ∧ Below w.heap.size w w' := by
  have G1 := Aside0.mk g
  clear g 
  have RD_a0 := Aside0.mk r0
  have RD_a1 := Aside0.mk r1
  have I1 := Aside0.mk i1
  clear r0 r1 i1
  have BW : Aside0 (Below w.heap.size w w) := ⟨Below.refl _ _⟩
  go_enter Try.func5, Try.ntmps5
  obtain ⟨u1, hu1⟩ : ∃ u, (w.alloc (Obj.cells #[.slice A0 a1.length c0, .slice A1 a2.length c1] 24)) = u := ⟨_, rfl⟩
  have hbu1 : Below w.heap.size w u1 := by rw [← hu1]; exact below_fold w [Obj.cells #[.slice A0 a1.length c0, .slice A1 a2.length c1] 24]
  have BX_a : Aside0 (u1.heap[w.heap.size]? = some (.cells #[.slice A0 a1.length c0, .slice A1 a2.length c1] 24 (0, 0))) := ⟨by rw [← hu1]; exact blk_fold w [Obj.cells #[.slice A0 a1.length c0, .slice A1 a2.length c1] 24] 0 _ rfl⟩
  have Hu1 := Aside0.mk hu1
  replace RD_a0 := Aside0.mk (RD_a0.out.below hbu1)
  replace RD_a1 := Aside0.mk (RD_a1.out.below hbu1)
  replace BW := Aside0.mk (below_then BW.out BW.out.size hbu1)
  clear hbu1 hu1
  go_wp2_with fail
  rw [Hu1.out]
  clear Hu1
  refine (awake04 _).mono ?_
  rintro e v2 ⟨rfl, hb⟩
  replace BX_a := Aside0.mk (blk_below BX_a.out hb)
  replace RD_a0 := Aside0.mk (RD_a0.out.below hb)
  replace RD_a1 := Aside0.mk (RD_a1.out.below hb)
  replace BW := Aside0.mk (below_then BW.out BW.out.size hb)
  clear hb
  have q3 : v2.cell? ⟨w.heap.size, 0, none⟩ = some (.slice A0 a1.length c0) := (blk_cell BX_a.out 0).trans rfl
  have q4 : v2.cell? ⟨w.heap.size, 1, none⟩ = some (.slice A1 a2.length c1) := (blk_cell BX_a.out 1).trans rfl
  go_wp2_with fail
  clear q3 q4
  refine (few_r (b := false) (s := a1) (d := a2) G1.out).mono ?_
  rintro e v5 ⟨rfl, hb⟩
  replace BX_a := Aside0.mk (blk_below BX_a.out hb)
  replace RD_a0 := Aside0.mk (RD_a0.out.below hb)
  replace RD_a1 := Aside0.mk (RD_a1.out.below hb)
  replace BW := Aside0.mk (below_then BW.out BW.out.size hb)
  clear hb
  go_wp2_with fail
  go_ret
  exact ⟨rfl, BW.out⟩
set_option maxRecDepth 100000 in
theorem ones_bad2 (A0 : Option Addr) (c0 : Nat) (a1 : List Int) (A1 : Option Addr) (c1 : Nat) (a2 : List Int) (w : World)
    (r0 : Rd w (.slice A0 a1.length c0) a1) (r1 : Rd w (.slice A1 a2.length c1) a2) (i1 : allI a2) (g1 : fewB a1 a2 = true) (g : tOk a1 a2 = false) :
    Calls Try.prog 5 #[.agg #[.slice A0 a1.length c0, .slice A1 a2.length c1]] w fun e w' => e = .returned (.bool true) ∧ Below w.heap.size w w' := by
  have G1 := Aside0.mk g1
  have G2 := Aside0.mk g
  clear g g1
  have RD_a0 := Aside0.mk r0
  have RD_a1 := Aside0.mk r1
  have I1 := Aside0.mk i1
  clear r0 r1 i1
  have BW : Aside0 (Below w.heap.size w w) := ⟨Below.refl _ _⟩
  go_enter Try.func5, Try.ntmps5
  obtain ⟨u1, hu1⟩ : ∃ u, (w.alloc (Obj.cells #[.slice A0 a1.length c0, .slice A1 a2.length c1] 24)) = u := ⟨_, rfl⟩
  have hbu1 : Below w.heap.size w u1 := by rw [← hu1]; exact below_fold w [Obj.cells #[.slice A0 a1.length c0, .slice A1 a2.length c1] 24]
  have BX_a : Aside0 (u1.heap[w.heap.size]? = some (.cells #[.slice A0 a1.length c0, .slice A1 a2.length c1] 24 (0, 0))) := ⟨by rw [← hu1]; exact blk_fold w [Obj.cells #[.slice A0 a1.length c0, .slice A1 a2.length c1] 24] 0 _ rfl⟩
  have Hu1 := Aside0.mk hu1
  replace RD_a0 := Aside0.mk (RD_a0.out.below hbu1)
  replace RD_a1 := Aside0.mk (RD_a1.out.below hbu1)
  replace BW := Aside0.mk (below_then BW.out BW.out.size hbu1)
  clear hbu1 hu1
  go_wp2_with fail
  rw [Hu1.out]
  clear Hu1
  refine (awake04 _).mono ?_
  rintro e v2 ⟨rfl, hb⟩
  replace BX_a := Aside0.mk (blk_below BX_a.out hb)
  replace RD_a0 := Aside0.mk (RD_a0.out.below hb)
  replace RD_a1 := Aside0.mk (RD_a1.out.below hb)
  replace BW := Aside0.mk (below_then BW.out BW.out.size hb)
  clear hb
  have q3 : v2.cell? ⟨w.heap.size, 0, none⟩ = some (.slice A0 a1.length c0) := (blk_cell BX_a.out 0).trans rfl
  have q4 : v2.cell? ⟨w.heap.size, 1, none⟩ = some (.slice A1 a2.length c1) := (blk_cell BX_a.out 1).trans rfl
  go_wp2_with fail
  clear q3 q4
  refine (few_r (b := true) (s := a1) (d := a2) G1.out).mono ?_
  rintro e v5 ⟨rfl, hb⟩
  replace BX_a := Aside0.mk (blk_below BX_a.out hb)
  replace RD_a0 := Aside0.mk (RD_a0.out.below hb)
  replace RD_a1 := Aside0.mk (RD_a1.out.below hb)
  replace BW := Aside0.mk (below_then BW.out BW.out.size hb)
  clear hb
  have q6 : v5.cell? ⟨w.heap.size, 0, none⟩ = some (.slice A0 a1.length c0) := (blk_cell BX_a.out 0).trans rfl
  have q7 : v5.cell? ⟨w.heap.size, 1, none⟩ = some (.slice A1 a2.length c1) := (blk_cell BX_a.out 1).trans rfl
  go_wp2_with fail
  clear q6 q7
  refine (tcheck_r (b := false) G2.out RD_a0.out).mono ?_
  rintro e v8 ⟨rfl, hb⟩
  replace BX_a := Aside0.mk (blk_below BX_a.out hb)
  replace RD_a0 := Aside0.mk (RD_a0.out.below hb)
  replace RD_a1 := Aside0.mk (RD_a1.out.below hb)
  replace BW := Aside0.mk (below_then BW.out BW.out.size hb)
  clear hb
  go_wp2_with fail
  go_ret
  exact ⟨rfl, BW.out⟩
set_option maxRecDepth 100000 in
theorem ones_good (A0 : Option Addr) (c0 : Nat) (a1 : List Int) (A1 : Option Addr) (c1 : Nat) (a2 : List Int) (w : World)
    (r0 : Rd w (.slice A0 a1.length c0) a1) (r1 : Rd w (.slice A1 a2.length c1) a2) (i1 : allI a2) (g1 : fewB a1 a2 = true) (g2 : tOk a1 a2 = true)
    (sp dp : List Int) (ep : Int) (hp : elemTwo 12 a1 a2 [] [4294967296] = ((sp, dp), ep)) (sq dq : List Int) (eq : Int) (hq : elemTwo 13 a1 a2 [] [4294967296] = ((sq, dq), eq)) (sn dn : List Int) (en : Int) (hn : elemOne 20 a1 a2 = ((sn, dn), en)) (sm dm : List Int) (em : Int) (hm : elemOne 20 sn dn = ((sm, dm), em)) (sr dr : List Int) (er : Int) (hr : elemOne 21 a1 a2 = ((sr, dr), er)) (ss ds : List Int) (es : Int) (hs : elemOne 21 sr dr = ((ss, ds), es))
    (inn : allI dn) (ir : allI dr) (l64 : a2.length ≤ 64) (lr : dr.length = a2.length) (hl : ∀ k : Nat, k < a2.length → ¬ rd dr k < 0 ∧ ¬ rd dr k < rd a2 k ∧ (rd dr k ≠ 0 → rd dr k = rd a2 k))
    (e1 : sameB sp dp a1 a2 = true) (e2 : ep = 0) (e3 : sameB sq dq a1 a2 = true) (e4 : eq = 0) (e5 : er = 0) (e6 : es = 0) (e7 : sameB sr dr ss ds = true) (e8 : en = 0 → em = 0 ∧ sameB sm dm a1 a2 = true) :
    Calls Try.prog 5 #[.agg #[.slice A0 a1.length c0, .slice A1 a2.length c1]] w fun e w' => e = .returned (.bool true) ∧ Below w.heap.size w w' := by
  have G1 := Aside0.mk g1
  have G2 := Aside0.mk g2
  have Hp := Aside0.mk hp
  have Hq := Aside0.mk hq
  have Hn := Aside0.mk hn
  have Hm := Aside0.mk hm
  have Hr := Aside0.mk hr
  have Hs := Aside0.mk hs
  have IN := Aside0.mk inn
  have IR := Aside0.mk ir
  have E1 := Aside0.mk e1
  have E3 := Aside0.mk e3
  have E7 := Aside0.mk e7
  have E8 := Aside0.mk e8
  have LR := Aside0.mk (And.intro lr l64)
  have HL := Aside0.mk hl
  have H1 : Aside0 (fullT [] 4294967296 = (([], [4294967296]), 0)) := ⟨rfl⟩
  have IO : Aside0 (allI [4294967296]) := ⟨fun x hx => by rw [List.mem_singleton] at hx; subst hx; unfold isI64; omega⟩
  have z2 : (ep == 0) = true := by simpa using e2
  have z4 : (eq == 0) = true := by simpa using e4
  have z5 : (er == 0) = true := by simpa using e5
  have z6 : (es == 0) = true := by simpa using e6
  clear g1 g2 inn ir lr l64 hl e1 e2 e3 e4 e5 e6 e7 e8 hp hq hn hm hr hs
  have RD_a0 := Aside0.mk r0
  have RD_a1 := Aside0.mk r1
  have I1 := Aside0.mk i1
  clear r0 r1 i1
  have BW : Aside0 (Below w.heap.size w w) := ⟨Below.refl _ _⟩
  go_enter Try.func5, Try.ntmps5
  obtain ⟨u1, hu1⟩ : ∃ u, (w.alloc (Obj.cells #[.slice A0 a1.length c0, .slice A1 a2.length c1] 24)) = u := ⟨_, rfl⟩
  have hbu1 : Below w.heap.size w u1 := by rw [← hu1]; exact below_fold w [Obj.cells #[.slice A0 a1.length c0, .slice A1 a2.length c1] 24]
  have BX_a : Aside0 (u1.heap[w.heap.size]? = some (.cells #[.slice A0 a1.length c0, .slice A1 a2.length c1] 24 (0, 0))) := ⟨by rw [← hu1]; exact blk_fold w [Obj.cells #[.slice A0 a1.length c0, .slice A1 a2.length c1] 24] 0 _ rfl⟩
  have Hu1 := Aside0.mk hu1
  replace RD_a0 := Aside0.mk (RD_a0.out.below hbu1)
  replace RD_a1 := Aside0.mk (RD_a1.out.below hbu1)
  replace BW := Aside0.mk (below_then BW.out BW.out.size hbu1)
  clear hbu1 hu1
  go_wp2_with fail
  rw [Hu1.out]
  clear Hu1
  refine (awake04 _).mono ?_
  rintro e v2 ⟨rfl, hb⟩
  replace BX_a := Aside0.mk (blk_below BX_a.out hb)
  replace RD_a0 := Aside0.mk (RD_a0.out.below hb)
  replace RD_a1 := Aside0.mk (RD_a1.out.below hb)
  replace BW := Aside0.mk (below_then BW.out BW.out.size hb)
  clear hb
  have q3 : v2.cell? ⟨w.heap.size, 0, none⟩ = some (.slice A0 a1.length c0) := (blk_cell BX_a.out 0).trans rfl
  have q4 : v2.cell? ⟨w.heap.size, 1, none⟩ = some (.slice A1 a2.length c1) := (blk_cell BX_a.out 1).trans rfl
  go_wp2_with fail
  clear q3 q4
  refine (few_r (b := true) (s := a1) (d := a2) G1.out).mono ?_
  rintro e v5 ⟨rfl, hb⟩
  replace BX_a := Aside0.mk (blk_below BX_a.out hb)
  replace RD_a0 := Aside0.mk (RD_a0.out.below hb)
  replace RD_a1 := Aside0.mk (RD_a1.out.below hb)
  replace BW := Aside0.mk (below_then BW.out BW.out.size hb)
  clear hb
  have q6 : v5.cell? ⟨w.heap.size, 0, none⟩ = some (.slice A0 a1.length c0) := (blk_cell BX_a.out 0).trans rfl
  have q7 : v5.cell? ⟨w.heap.size, 1, none⟩ = some (.slice A1 a2.length c1) := (blk_cell BX_a.out 1).trans rfl
  go_wp2_with fail
  clear q6 q7
  refine (tcheck_r (b := true) G2.out RD_a0.out).mono ?_
  rintro e v8 ⟨rfl, hb⟩
  replace BX_a := Aside0.mk (blk_below BX_a.out hb)
  replace RD_a0 := Aside0.mk (RD_a0.out.below hb)
  replace RD_a1 := Aside0.mk (RD_a1.out.below hb)
  replace BW := Aside0.mk (below_then BW.out BW.out.size hb)
  clear hb
  go_wp2_with fail
  refine (full_r (A0 := none) (c0 := 0) (n := 4294967296) H1.out (Rd.nil _)).mono ?_
  rintro e v9 ⟨Ao, ko, A'o, k'o, rfl, r0, r1, hb⟩
  have RD_o0 := Aside0.mk r0
  have RD_o1 := Aside0.mk r1
  replace BX_a := Aside0.mk (blk_below BX_a.out hb)
  replace RD_a0 := Aside0.mk (RD_a0.out.below hb)
  replace RD_a1 := Aside0.mk (RD_a1.out.below hb)
  replace BW := Aside0.mk (below_then BW.out BW.out.size hb)
  clear hb r0 r1
  have q10 : (v9.alloc (Obj.cells #[.slice Ao 0 ko, .slice A'o 1 k'o] 24)).cell? ⟨w.heap.size, 0, none⟩ = some (.slice A0 a1.length c0) := (blk_cell (blk_below BX_a.out (below_fold v9 [Obj.cells #[.slice Ao 0 ko, .slice A'o 1 k'o] 24])) 0).trans rfl
  have q11 : (v9.alloc (Obj.cells #[.slice Ao 0 ko, .slice A'o 1 k'o] 24)).cell? ⟨w.heap.size, 1, none⟩ = some (.slice A1 a2.length c1) := (blk_cell (blk_below BX_a.out (below_fold v9 [Obj.cells #[.slice Ao 0 ko, .slice A'o 1 k'o] 24])) 1).trans rfl
  have q12 : (v9.alloc (Obj.cells #[.slice Ao 0 ko, .slice A'o 1 k'o] 24)).cell? ⟨v9.heap.size, 0, none⟩ = some (.slice Ao 0 ko) := (blk_cell (blk_fold v9 [Obj.cells #[.slice Ao 0 ko, .slice A'o 1 k'o] 24] 0 _ rfl) 0).trans rfl
  have q13 : (v9.alloc (Obj.cells #[.slice Ao 0 ko, .slice A'o 1 k'o] 24)).cell? ⟨v9.heap.size, 1, none⟩ = some (.slice A'o 1 k'o) := (blk_cell (blk_fold v9 [Obj.cells #[.slice Ao 0 ko, .slice A'o 1 k'o] 24] 0 _ rfl) 1).trans rfl
  obtain ⟨u14, hu14⟩ : ∃ u, (v9.alloc (Obj.cells #[.slice Ao 0 ko, .slice A'o 1 k'o] 24)) = u := ⟨_, rfl⟩
  have hbu14 : Below v9.heap.size v9 u14 := by rw [← hu14]; exact below_fold v9 [Obj.cells #[.slice Ao 0 ko, .slice A'o 1 k'o] 24]
  have BX_o : Aside0 (u14.heap[v9.heap.size]? = some (.cells #[.slice Ao 0 ko, .slice A'o 1 k'o] 24 (0, 0))) := ⟨by rw [← hu14]; exact blk_fold v9 [Obj.cells #[.slice Ao 0 ko, .slice A'o 1 k'o] 24] 0 _ rfl⟩
  have Hu14 := Aside0.mk hu14
  replace BX_a := Aside0.mk (blk_below BX_a.out hbu14)
  replace RD_a0 := Aside0.mk (RD_a0.out.below hbu14)
  replace RD_a1 := Aside0.mk (RD_a1.out.below hbu14)
  replace RD_o0 := Aside0.mk (RD_o0.out.below hbu14)
  replace RD_o1 := Aside0.mk (RD_o1.out.below hbu14)
  replace BW := Aside0.mk (below_then BW.out BW.out.size hbu14)
  clear hbu14 hu14
  go_wp2_with fail
  rw [Hu14.out]
  clear q10 q11 q12 q13
  clear Hu14
  refine (two_r 12 Hp.out RD_a0.out RD_a1.out RD_o0.out RD_o1.out I1.out IO.out).mono ?_
  rintro e v15 ⟨Ap, kp, A'p, k'p, rfl, r0, r1, hb⟩
  have RD_p0 := Aside0.mk r0
  have RD_p1 := Aside0.mk r1
  replace BX_a := Aside0.mk (blk_below BX_a.out hb)
  replace BX_o := Aside0.mk (blk_below BX_o.out hb)
  replace RD_a0 := Aside0.mk (RD_a0.out.below hb)
  replace RD_a1 := Aside0.mk (RD_a1.out.below hb)
  replace RD_o0 := Aside0.mk (RD_o0.out.below hb)
  replace RD_o1 := Aside0.mk (RD_o1.out.below hb)
  replace BW := Aside0.mk (below_then BW.out BW.out.size hb)
  clear hb r0 r1
  have q16 : (v15.alloc (Obj.cells #[.slice Ap sp.length kp, .slice A'p dp.length k'p] 24)).cell? ⟨w.heap.size, 0, none⟩ = some (.slice A0 a1.length c0) := (blk_cell (blk_below BX_a.out (below_fold v15 [Obj.cells #[.slice Ap sp.length kp, .slice A'p dp.length k'p] 24])) 0).trans rfl
  have q17 : (v15.alloc (Obj.cells #[.slice Ap sp.length kp, .slice A'p dp.length k'p] 24)).cell? ⟨w.heap.size, 1, none⟩ = some (.slice A1 a2.length c1) := (blk_cell (blk_below BX_a.out (below_fold v15 [Obj.cells #[.slice Ap sp.length kp, .slice A'p dp.length k'p] 24])) 1).trans rfl
  have q18 : (v15.alloc (Obj.cells #[.slice Ap sp.length kp, .slice A'p dp.length k'p] 24)).cell? ⟨v9.heap.size, 0, none⟩ = some (.slice Ao 0 ko) := (blk_cell (blk_below BX_o.out (below_fold v15 [Obj.cells #[.slice Ap sp.length kp, .slice A'p dp.length k'p] 24])) 0).trans rfl
  have q19 : (v15.alloc (Obj.cells #[.slice Ap sp.length kp, .slice A'p dp.length k'p] 24)).cell? ⟨v9.heap.size, 1, none⟩ = some (.slice A'o 1 k'o) := (blk_cell (blk_below BX_o.out (below_fold v15 [Obj.cells #[.slice Ap sp.length kp, .slice A'p dp.length k'p] 24])) 1).trans rfl
  obtain ⟨u20, hu20⟩ : ∃ u, (v15.alloc (Obj.cells #[.slice Ap sp.length kp, .slice A'p dp.length k'p] 24)) = u := ⟨_, rfl⟩
  have hbu20 : Below v15.heap.size v15 u20 := by rw [← hu20]; exact below_fold v15 [Obj.cells #[.slice Ap sp.length kp, .slice A'p dp.length k'p] 24]
  have BX_p : Aside0 (u20.heap[v15.heap.size]? = some (.cells #[.slice Ap sp.length kp, .slice A'p dp.length k'p] 24 (0, 0))) := ⟨by rw [← hu20]; exact blk_fold v15 [Obj.cells #[.slice Ap sp.length kp, .slice A'p dp.length k'p] 24] 0 _ rfl⟩
  have Hu20 := Aside0.mk hu20
  replace BX_a := Aside0.mk (blk_below BX_a.out hbu20)
  replace BX_o := Aside0.mk (blk_below BX_o.out hbu20)
  replace RD_a0 := Aside0.mk (RD_a0.out.below hbu20)
  replace RD_a1 := Aside0.mk (RD_a1.out.below hbu20)
  replace RD_o0 := Aside0.mk (RD_o0.out.below hbu20)
  replace RD_o1 := Aside0.mk (RD_o1.out.below hbu20)
  replace RD_p0 := Aside0.mk (RD_p0.out.below hbu20)
  replace RD_p1 := Aside0.mk (RD_p1.out.below hbu20)
  replace BW := Aside0.mk (below_then BW.out BW.out.size hbu20)
  clear hbu20 hu20
  go_wp2_with fail
  rw [Hu20.out]
  clear q16 q17 q18 q19
  clear Hu20
  refine (two_r 13 Hq.out RD_a0.out RD_a1.out RD_o0.out RD_o1.out I1.out IO.out).mono ?_
  rintro e v21 ⟨Aq, kq, A'q, k'q, rfl, r0, r1, hb⟩
  have RD_q0 := Aside0.mk r0
  have RD_q1 := Aside0.mk r1
  replace BX_a := Aside0.mk (blk_below BX_a.out hb)
  replace BX_o := Aside0.mk (blk_below BX_o.out hb)
  replace BX_p := Aside0.mk (blk_below BX_p.out hb)
  replace RD_a0 := Aside0.mk (RD_a0.out.below hb)
  replace RD_a1 := Aside0.mk (RD_a1.out.below hb)
  replace RD_o0 := Aside0.mk (RD_o0.out.below hb)
  replace RD_o1 := Aside0.mk (RD_o1.out.below hb)
  replace RD_p0 := Aside0.mk (RD_p0.out.below hb)
  replace RD_p1 := Aside0.mk (RD_p1.out.below hb)
  replace BW := Aside0.mk (below_then BW.out BW.out.size hb)
  clear hb r0 r1
  have q22 : (v21.alloc (Obj.cells #[.slice Aq sq.length kq, .slice A'q dq.length k'q] 24)).cell? ⟨w.heap.size, 0, none⟩ = some (.slice A0 a1.length c0) := (blk_cell (blk_below BX_a.out (below_fold v21 [Obj.cells #[.slice Aq sq.length kq, .slice A'q dq.length k'q] 24])) 0).trans rfl
  have q23 : (v21.alloc (Obj.cells #[.slice Aq sq.length kq, .slice A'q dq.length k'q] 24)).cell? ⟨w.heap.size, 1, none⟩ = some (.slice A1 a2.length c1) := (blk_cell (blk_below BX_a.out (below_fold v21 [Obj.cells #[.slice Aq sq.length kq, .slice A'q dq.length k'q] 24])) 1).trans rfl
  obtain ⟨u24, hu24⟩ : ∃ u, (v21.alloc (Obj.cells #[.slice Aq sq.length kq, .slice A'q dq.length k'q] 24)) = u := ⟨_, rfl⟩
  have hbu24 : Below v21.heap.size v21 u24 := by rw [← hu24]; exact below_fold v21 [Obj.cells #[.slice Aq sq.length kq, .slice A'q dq.length k'q] 24]
  have BX_q : Aside0 (u24.heap[v21.heap.size]? = some (.cells #[.slice Aq sq.length kq, .slice A'q dq.length k'q] 24 (0, 0))) := ⟨by rw [← hu24]; exact blk_fold v21 [Obj.cells #[.slice Aq sq.length kq, .slice A'q dq.length k'q] 24] 0 _ rfl⟩
  have Hu24 := Aside0.mk hu24
  replace BX_a := Aside0.mk (blk_below BX_a.out hbu24)
  replace BX_o := Aside0.mk (blk_below BX_o.out hbu24)
  replace BX_p := Aside0.mk (blk_below BX_p.out hbu24)
  replace RD_a0 := Aside0.mk (RD_a0.out.below hbu24)
  replace RD_a1 := Aside0.mk (RD_a1.out.below hbu24)
  replace RD_o0 := Aside0.mk (RD_o0.out.below hbu24)
  replace RD_o1 := Aside0.mk (RD_o1.out.below hbu24)
  replace RD_p0 := Aside0.mk (RD_p0.out.below hbu24)
  replace RD_p1 := Aside0.mk (RD_p1.out.below hbu24)
  replace RD_q0 := Aside0.mk (RD_q0.out.below hbu24)
  replace RD_q1 := Aside0.mk (RD_q1.out.below hbu24)
  replace BW := Aside0.mk (below_then BW.out BW.out.size hbu24)
  clear hbu24 hu24
  go_wp2_with fail
  rw [Hu24.out]
  clear q22 q23
  clear Hu24
  refine (one_r 20 Hn.out RD_a0.out RD_a1.out I1.out).mono ?_
  rintro e v25 ⟨An, kn, A'n, k'n, rfl, r0, r1, hb⟩
  have RD_n0 := Aside0.mk r0
  have RD_n1 := Aside0.mk r1
  replace BX_a := Aside0.mk (blk_below BX_a.out hb)
  replace BX_o := Aside0.mk (blk_below BX_o.out hb)
  replace BX_p := Aside0.mk (blk_below BX_p.out hb)
  replace BX_q := Aside0.mk (blk_below BX_q.out hb)
  replace RD_a0 := Aside0.mk (RD_a0.out.below hb)
  replace RD_a1 := Aside0.mk (RD_a1.out.below hb)
  replace RD_o0 := Aside0.mk (RD_o0.out.below hb)
  replace RD_o1 := Aside0.mk (RD_o1.out.below hb)
  replace RD_p0 := Aside0.mk (RD_p0.out.below hb)
  replace RD_p1 := Aside0.mk (RD_p1.out.below hb)
  replace RD_q0 := Aside0.mk (RD_q0.out.below hb)
  replace RD_q1 := Aside0.mk (RD_q1.out.below hb)
  replace BW := Aside0.mk (below_then BW.out BW.out.size hb)
  clear hb r0 r1
  have q26 : (v25.alloc (Obj.cells #[.slice An sn.length kn, .slice A'n dn.length k'n] 24)).cell? ⟨v25.heap.size, 0, none⟩ = some (.slice An sn.length kn) := (blk_cell (blk_fold v25 [Obj.cells #[.slice An sn.length kn, .slice A'n dn.length k'n] 24] 0 _ rfl) 0).trans rfl
  have q27 : (v25.alloc (Obj.cells #[.slice An sn.length kn, .slice A'n dn.length k'n] 24)).cell? ⟨v25.heap.size, 1, none⟩ = some (.slice A'n dn.length k'n) := (blk_cell (blk_fold v25 [Obj.cells #[.slice An sn.length kn, .slice A'n dn.length k'n] 24] 0 _ rfl) 1).trans rfl
  obtain ⟨u28, hu28⟩ : ∃ u, (v25.alloc (Obj.cells #[.slice An sn.length kn, .slice A'n dn.length k'n] 24)) = u := ⟨_, rfl⟩
  have hbu28 : Below v25.heap.size v25 u28 := by rw [← hu28]; exact below_fold v25 [Obj.cells #[.slice An sn.length kn, .slice A'n dn.length k'n] 24]
  have BX_n : Aside0 (u28.heap[v25.heap.size]? = some (.cells #[.slice An sn.length kn, .slice A'n dn.length k'n] 24 (0, 0))) := ⟨by rw [← hu28]; exact blk_fold v25 [Obj.cells #[.slice An sn.length kn, .slice A'n dn.length k'n] 24] 0 _ rfl⟩
  have Hu28 := Aside0.mk hu28
  replace BX_a := Aside0.mk (blk_below BX_a.out hbu28)
  replace BX_o := Aside0.mk (blk_below BX_o.out hbu28)
  replace BX_p := Aside0.mk (blk_below BX_p.out hbu28)
  replace BX_q := Aside0.mk (blk_below BX_q.out hbu28)
  replace RD_a0 := Aside0.mk (RD_a0.out.below hbu28)
  replace RD_a1 := Aside0.mk (RD_a1.out.below hbu28)
  replace RD_o0 := Aside0.mk (RD_o0.out.below hbu28)
  replace RD_o1 := Aside0.mk (RD_o1.out.below hbu28)
  replace RD_p0 := Aside0.mk (RD_p0.out.below hbu28)
  replace RD_p1 := Aside0.mk (RD_p1.out.below hbu28)
  replace RD_q0 := Aside0.mk (RD_q0.out.below hbu28)
  replace RD_q1 := Aside0.mk (RD_q1.out.below hbu28)
  replace RD_n0 := Aside0.mk (RD_n0.out.below hbu28)
  replace RD_n1 := Aside0.mk (RD_n1.out.below hbu28)
  replace BW := Aside0.mk (below_then BW.out BW.out.size hbu28)
  clear hbu28 hu28
  go_wp2_with fail
  rw [Hu28.out]
  clear q26 q27
  clear Hu28
  refine (one_r 20 Hm.out RD_n0.out RD_n1.out IN.out).mono ?_
  rintro e v29 ⟨Am, km, A'm, k'm, rfl, r0, r1, hb⟩
  have RD_m0 := Aside0.mk r0
  have RD_m1 := Aside0.mk r1
  replace BX_a := Aside0.mk (blk_below BX_a.out hb)
  replace BX_o := Aside0.mk (blk_below BX_o.out hb)
  replace BX_p := Aside0.mk (blk_below BX_p.out hb)
  replace BX_q := Aside0.mk (blk_below BX_q.out hb)
  replace BX_n := Aside0.mk (blk_below BX_n.out hb)
  replace RD_a0 := Aside0.mk (RD_a0.out.below hb)
  replace RD_a1 := Aside0.mk (RD_a1.out.below hb)
  replace RD_o0 := Aside0.mk (RD_o0.out.below hb)
  replace RD_o1 := Aside0.mk (RD_o1.out.below hb)
  replace RD_p0 := Aside0.mk (RD_p0.out.below hb)
  replace RD_p1 := Aside0.mk (RD_p1.out.below hb)
  replace RD_q0 := Aside0.mk (RD_q0.out.below hb)
  replace RD_q1 := Aside0.mk (RD_q1.out.below hb)
  replace RD_n0 := Aside0.mk (RD_n0.out.below hb)
  replace RD_n1 := Aside0.mk (RD_n1.out.below hb)
  replace BW := Aside0.mk (below_then BW.out BW.out.size hb)
  clear hb r0 r1
  have q30 : (v29.alloc (Obj.cells #[.slice Am sm.length km, .slice A'm dm.length k'm] 24)).cell? ⟨w.heap.size, 0, none⟩ = some (.slice A0 a1.length c0) := (blk_cell (blk_below BX_a.out (below_fold v29 [Obj.cells #[.slice Am sm.length km, .slice A'm dm.length k'm] 24])) 0).trans rfl
  have q31 : (v29.alloc (Obj.cells #[.slice Am sm.length km, .slice A'm dm.length k'm] 24)).cell? ⟨w.heap.size, 1, none⟩ = some (.slice A1 a2.length c1) := (blk_cell (blk_below BX_a.out (below_fold v29 [Obj.cells #[.slice Am sm.length km, .slice A'm dm.length k'm] 24])) 1).trans rfl
  obtain ⟨u32, hu32⟩ : ∃ u, (v29.alloc (Obj.cells #[.slice Am sm.length km, .slice A'm dm.length k'm] 24)) = u := ⟨_, rfl⟩
  have hbu32 : Below v29.heap.size v29 u32 := by rw [← hu32]; exact below_fold v29 [Obj.cells #[.slice Am sm.length km, .slice A'm dm.length k'm] 24]
  have BX_m : Aside0 (u32.heap[v29.heap.size]? = some (.cells #[.slice Am sm.length km, .slice A'm dm.length k'm] 24 (0, 0))) := ⟨by rw [← hu32]; exact blk_fold v29 [Obj.cells #[.slice Am sm.length km, .slice A'm dm.length k'm] 24] 0 _ rfl⟩
  have Hu32 := Aside0.mk hu32
  replace BX_a := Aside0.mk (blk_below BX_a.out hbu32)
  replace BX_o := Aside0.mk (blk_below BX_o.out hbu32)
  replace BX_p := Aside0.mk (blk_below BX_p.out hbu32)
  replace BX_q := Aside0.mk (blk_below BX_q.out hbu32)
  replace BX_n := Aside0.mk (blk_below BX_n.out hbu32)
  replace RD_a0 := Aside0.mk (RD_a0.out.below hbu32)
  replace RD_a1 := Aside0.mk (RD_a1.out.below hbu32)
  replace RD_o0 := Aside0.mk (RD_o0.out.below hbu32)
  replace RD_o1 := Aside0.mk (RD_o1.out.below hbu32)
  replace RD_p0 := Aside0.mk (RD_p0.out.below hbu32)
  replace RD_p1 := Aside0.mk (RD_p1.out.below hbu32)
  replace RD_q0 := Aside0.mk (RD_q0.out.below hbu32)
  replace RD_q1 := Aside0.mk (RD_q1.out.below hbu32)
  replace RD_n0 := Aside0.mk (RD_n0.out.below hbu32)
  replace RD_n1 := Aside0.mk (RD_n1.out.below hbu32)
  replace RD_m0 := Aside0.mk (RD_m0.out.below hbu32)
  replace RD_m1 := Aside0.mk (RD_m1.out.below hbu32)
  replace BW := Aside0.mk (below_then BW.out BW.out.size hbu32)
  clear hbu32 hu32
  go_wp2_with fail
  rw [Hu32.out]
  clear q30 q31
  clear Hu32
  refine (one_r 21 Hr.out RD_a0.out RD_a1.out I1.out).mono ?_
  rintro e v33 ⟨Ar, kr, A'r, k'r, rfl, r0, r1, hb⟩
  have RD_r0 := Aside0.mk r0
  have RD_r1 := Aside0.mk r1
  replace BX_a := Aside0.mk (blk_below BX_a.out hb)
  replace BX_o := Aside0.mk (blk_below BX_o.out hb)
  replace BX_p := Aside0.mk (blk_below BX_p.out hb)
  replace BX_q := Aside0.mk (blk_below BX_q.out hb)
  replace BX_n := Aside0.mk (blk_below BX_n.out hb)
  replace BX_m := Aside0.mk (blk_below BX_m.out hb)
  replace RD_a0 := Aside0.mk (RD_a0.out.below hb)
  replace RD_a1 := Aside0.mk (RD_a1.out.below hb)
  replace RD_o0 := Aside0.mk (RD_o0.out.below hb)
  replace RD_o1 := Aside0.mk (RD_o1.out.below hb)
  replace RD_p0 := Aside0.mk (RD_p0.out.below hb)
  replace RD_p1 := Aside0.mk (RD_p1.out.below hb)
  replace RD_q0 := Aside0.mk (RD_q0.out.below hb)
  replace RD_q1 := Aside0.mk (RD_q1.out.below hb)
  replace RD_n0 := Aside0.mk (RD_n0.out.below hb)
  replace RD_n1 := Aside0.mk (RD_n1.out.below hb)
  replace RD_m0 := Aside0.mk (RD_m0.out.below hb)
  replace RD_m1 := Aside0.mk (RD_m1.out.below hb)
  replace BW := Aside0.mk (below_then BW.out BW.out.size hb)
  clear hb r0 r1
  have q34 : (v33.alloc (Obj.cells #[.slice Ar sr.length kr, .slice A'r dr.length k'r] 24)).cell? ⟨v33.heap.size, 0, none⟩ = some (.slice Ar sr.length kr) := (blk_cell (blk_fold v33 [Obj.cells #[.slice Ar sr.length kr, .slice A'r dr.length k'r] 24] 0 _ rfl) 0).trans rfl
  have q35 : (v33.alloc (Obj.cells #[.slice Ar sr.length kr, .slice A'r dr.length k'r] 24)).cell? ⟨v33.heap.size, 1, none⟩ = some (.slice A'r dr.length k'r) := (blk_cell (blk_fold v33 [Obj.cells #[.slice Ar sr.length kr, .slice A'r dr.length k'r] 24] 0 _ rfl) 1).trans rfl
  obtain ⟨u36, hu36⟩ : ∃ u, (v33.alloc (Obj.cells #[.slice Ar sr.length kr, .slice A'r dr.length k'r] 24)) = u := ⟨_, rfl⟩
  have hbu36 : Below v33.heap.size v33 u36 := by rw [← hu36]; exact below_fold v33 [Obj.cells #[.slice Ar sr.length kr, .slice A'r dr.length k'r] 24]
  have BX_r : Aside0 (u36.heap[v33.heap.size]? = some (.cells #[.slice Ar sr.length kr, .slice A'r dr.length k'r] 24 (0, 0))) := ⟨by rw [← hu36]; exact blk_fold v33 [Obj.cells #[.slice Ar sr.length kr, .slice A'r dr.length k'r] 24] 0 _ rfl⟩
  have Hu36 := Aside0.mk hu36
  replace BX_a := Aside0.mk (blk_below BX_a.out hbu36)
  replace BX_o := Aside0.mk (blk_below BX_o.out hbu36)
  replace BX_p := Aside0.mk (blk_below BX_p.out hbu36)
  replace BX_q := Aside0.mk (blk_below BX_q.out hbu36)
  replace BX_n := Aside0.mk (blk_below BX_n.out hbu36)
  replace BX_m := Aside0.mk (blk_below BX_m.out hbu36)
  replace RD_a0 := Aside0.mk (RD_a0.out.below hbu36)
  replace RD_a1 := Aside0.mk (RD_a1.out.below hbu36)
  replace RD_o0 := Aside0.mk (RD_o0.out.below hbu36)
  replace RD_o1 := Aside0.mk (RD_o1.out.below hbu36)
  replace RD_p0 := Aside0.mk (RD_p0.out.below hbu36)
  replace RD_p1 := Aside0.mk (RD_p1.out.below hbu36)
  replace RD_q0 := Aside0.mk (RD_q0.out.below hbu36)
  replace RD_q1 := Aside0.mk (RD_q1.out.below hbu36)
  replace RD_n0 := Aside0.mk (RD_n0.out.below hbu36)
  replace RD_n1 := Aside0.mk (RD_n1.out.below hbu36)
  replace RD_m0 := Aside0.mk (RD_m0.out.below hbu36)
  replace RD_m1 := Aside0.mk (RD_m1.out.below hbu36)
  replace RD_r0 := Aside0.mk (RD_r0.out.below hbu36)
  replace RD_r1 := Aside0.mk (RD_r1.out.below hbu36)
  replace BW := Aside0.mk (below_then BW.out BW.out.size hbu36)
  clear hbu36 hu36
  go_wp2_with fail
  rw [Hu36.out]
  clear q34 q35
  clear Hu36
  refine (one_r 21 Hs.out RD_r0.out RD_r1.out IR.out).mono ?_
  rintro e v37 ⟨As, ks, A's, k's, rfl, r0, r1, hb⟩
  have RD_s0 := Aside0.mk r0
  have RD_s1 := Aside0.mk r1
  replace BX_a := Aside0.mk (blk_below BX_a.out hb)
  replace BX_o := Aside0.mk (blk_below BX_o.out hb)
  replace BX_p := Aside0.mk (blk_below BX_p.out hb)
  replace BX_q := Aside0.mk (blk_below BX_q.out hb)
  replace BX_n := Aside0.mk (blk_below BX_n.out hb)
  replace BX_m := Aside0.mk (blk_below BX_m.out hb)
  replace BX_r := Aside0.mk (blk_below BX_r.out hb)
  replace RD_a0 := Aside0.mk (RD_a0.out.below hb)
  replace RD_a1 := Aside0.mk (RD_a1.out.below hb)
  replace RD_o0 := Aside0.mk (RD_o0.out.below hb)
  replace RD_o1 := Aside0.mk (RD_o1.out.below hb)
  replace RD_p0 := Aside0.mk (RD_p0.out.below hb)
  replace RD_p1 := Aside0.mk (RD_p1.out.below hb)
  replace RD_q0 := Aside0.mk (RD_q0.out.below hb)
  replace RD_q1 := Aside0.mk (RD_q1.out.below hb)
  replace RD_n0 := Aside0.mk (RD_n0.out.below hb)
  replace RD_n1 := Aside0.mk (RD_n1.out.below hb)
  replace RD_m0 := Aside0.mk (RD_m0.out.below hb)
  replace RD_m1 := Aside0.mk (RD_m1.out.below hb)
  replace RD_r0 := Aside0.mk (RD_r0.out.below hb)
  replace RD_r1 := Aside0.mk (RD_r1.out.below hb)
  replace BW := Aside0.mk (below_then BW.out BW.out.size hb)
  clear hb r0 r1
  obtain ⟨u38, hu38⟩ : ∃ u, (v37.alloc (Obj.cells #[.slice As ss.length ks, .slice A's ds.length k's] 24)) = u := ⟨_, rfl⟩
  have hbu38 : Below v37.heap.size v37 u38 := by rw [← hu38]; exact below_fold v37 [Obj.cells #[.slice As ss.length ks, .slice A's ds.length k's] 24]
  have BX_s : Aside0 (u38.heap[v37.heap.size]? = some (.cells #[.slice As ss.length ks, .slice A's ds.length k's] 24 (0, 0))) := ⟨by rw [← hu38]; exact blk_fold v37 [Obj.cells #[.slice As ss.length ks, .slice A's ds.length k's] 24] 0 _ rfl⟩
  have Hu38 := Aside0.mk hu38
  replace BX_a := Aside0.mk (blk_below BX_a.out hbu38)
  replace BX_o := Aside0.mk (blk_below BX_o.out hbu38)
  replace BX_p := Aside0.mk (blk_below BX_p.out hbu38)
  replace BX_q := Aside0.mk (blk_below BX_q.out hbu38)
  replace BX_n := Aside0.mk (blk_below BX_n.out hbu38)
  replace BX_m := Aside0.mk (blk_below BX_m.out hbu38)
  replace BX_r := Aside0.mk (blk_below BX_r.out hbu38)
  replace RD_a0 := Aside0.mk (RD_a0.out.below hbu38)
  replace RD_a1 := Aside0.mk (RD_a1.out.below hbu38)
  replace RD_o0 := Aside0.mk (RD_o0.out.below hbu38)
  replace RD_o1 := Aside0.mk (RD_o1.out.below hbu38)
  replace RD_p0 := Aside0.mk (RD_p0.out.below hbu38)
  replace RD_p1 := Aside0.mk (RD_p1.out.below hbu38)
  replace RD_q0 := Aside0.mk (RD_q0.out.below hbu38)
  replace RD_q1 := Aside0.mk (RD_q1.out.below hbu38)
  replace RD_n0 := Aside0.mk (RD_n0.out.below hbu38)
  replace RD_n1 := Aside0.mk (RD_n1.out.below hbu38)
  replace RD_m0 := Aside0.mk (RD_m0.out.below hbu38)
  replace RD_m1 := Aside0.mk (RD_m1.out.below hbu38)
  replace RD_r0 := Aside0.mk (RD_r0.out.below hbu38)
  replace RD_r1 := Aside0.mk (RD_r1.out.below hbu38)
  replace RD_s0 := Aside0.mk (RD_s0.out.below hbu38)
  replace RD_s1 := Aside0.mk (RD_s1.out.below hbu38)
  replace BW := Aside0.mk (below_then BW.out BW.out.size hbu38)
  clear hbu38 hu38
  go_wp2_with fail
  rw [Hu38.out]
  clear Hu38
  go_loopg [18] (a2.length) (fun g i wr => ∃ k : Nat, i = .int .i64 k ∧ Aside0 (Below u38.heap.size u38 wr) ∧ Aside0 (k ≤ a2.length ∧ g = a2.length - k))
  case atStart => exact ⟨0, rfl, ⟨Below.refl _ _⟩, ⟨by omega, by omega⟩⟩
  case round =>
    obtain ⟨k, rfl, hbx, HA⟩ := hrel
    obtain ⟨hk, hg⟩ := HA.out
    obtain ⟨v99, rfl⟩ : ∃ v99, v99 = wr := ⟨_, rfl⟩
    have hb := hbx.out
    replace BX_a := Aside0.mk (blk_below BX_a.out hb)
    replace BX_o := Aside0.mk (blk_below BX_o.out hb)
    replace BX_p := Aside0.mk (blk_below BX_p.out hb)
    replace BX_q := Aside0.mk (blk_below BX_q.out hb)
    replace BX_n := Aside0.mk (blk_below BX_n.out hb)
    replace BX_m := Aside0.mk (blk_below BX_m.out hb)
    replace BX_r := Aside0.mk (blk_below BX_r.out hb)
    replace BX_s := Aside0.mk (blk_below BX_s.out hb)
    replace RD_a0 := Aside0.mk (RD_a0.out.below hb)
    replace RD_a1 := Aside0.mk (RD_a1.out.below hb)
    replace RD_o0 := Aside0.mk (RD_o0.out.below hb)
    replace RD_o1 := Aside0.mk (RD_o1.out.below hb)
    replace RD_p0 := Aside0.mk (RD_p0.out.below hb)
    replace RD_p1 := Aside0.mk (RD_p1.out.below hb)
    replace RD_q0 := Aside0.mk (RD_q0.out.below hb)
    replace RD_q1 := Aside0.mk (RD_q1.out.below hb)
    replace RD_n0 := Aside0.mk (RD_n0.out.below hb)
    replace RD_n1 := Aside0.mk (RD_n1.out.below hb)
    replace RD_m0 := Aside0.mk (RD_m0.out.below hb)
    replace RD_m1 := Aside0.mk (RD_m1.out.below hb)
    replace RD_r0 := Aside0.mk (RD_r0.out.below hb)
    replace RD_r1 := Aside0.mk (RD_r1.out.below hb)
    replace RD_s0 := Aside0.mk (RD_s0.out.below hb)
    replace RD_s1 := Aside0.mk (RD_s1.out.below hb)
    replace BW := Aside0.mk (below_then BW.out BW.out.size hb)
    clear hb HA
    have lr := LR.out.1
    have l64 := LR.out.2
    by_cases hlt : k < a2.length
    case pos =>
      have cc1 : decide ((k : Int) < (a2.length : Int)) = true := by simpa using hlt
      have cc2 : decide (k < a2.length) = true := by simpa using hlt
      have cc3 : decide ((k : Int) < (dr.length : Int)) = true := by simp; omega
      have cc4 : decide (k < dr.length) = true := by simp; omega
      have k1 : k < dr.length := by omega
      have hh := HL.out k hlt
      obtain ⟨ar, rfl, hcx⟩ := Kd.at_int RD_r1.out.c.1 (k : Int) (by omega) (by omega)
      obtain ⟨aa, rfl, hcy⟩ := Kd.at_int RD_a1.out.c.1 (k : Int) (by omega) (by omega)
      simp only [Int.toNat_natCast] at hcx hcy
      obtain ⟨x, hxe⟩ : ∃ x, rd dr k = x := ⟨_, rfl⟩
      obtain ⟨y, hye⟩ : ∃ x, rd a2 k = x := ⟨_, rfl⟩
      rw [hxe] at hcx hh
      rw [hye] at hcy hh
      have qq_r1 : v99.cell? ⟨v33.heap.size, 1, none⟩ = some (.slice (some ar) dr.length k'r) := (blk_cell BX_r.out 1).trans rfl
      have qq_a1 : v99.cell? ⟨w.heap.size, 1, none⟩ = some (.slice (some aa) a2.length c1) := (blk_cell BX_a.out 1).trans rfl
      have d1 : decide (x < 0) = false := by simp; omega
      have d2 : decide (x < y) = false := by simp; omega
      have hwi : IntKind.i64.wrap ((k : Int) + 1) = ((k + 1 : Nat) : Int) := by rw [wrap_in _ ⟨by omega, by omega⟩]; omega
      have G := Aside0.mk (And.intro hg hlt)
      have HX := Aside0.mk hh
      clear hxe hye hk hg hh lr l64
      by_cases hx0 : x = 0
      case pos =>
        have d3 : (x != 0) = false := by simpa using hx0
        clear hx0
        go_wp2_with fail
        go_quiet (fail)
        go_wp2_with fail
        go_roundg (a2.length - (k + 1))
        case measure => have := G.out; omega
        case rel => exact ⟨k + 1, by first | rfl | simp, ⟨pw_below_drewN hbx.out _⟩, ⟨by have := G.out; omega, rfl⟩⟩
      case neg =>
        have d3 : (x != 0) = true := by simpa using hx0
        have d4 : (x != y) = false := by rw [bne_eq_false_iff_eq]; exact HX.out.2.2 hx0
        clear hx0
        go_wp2_with fail
        go_quiet (fail)
        go_wp2_with fail
        go_roundg (a2.length - (k + 1))
        case measure => have := G.out; omega
        case rel => exact ⟨k + 1, by first | rfl | simp, ⟨pw_below_drewN hbx.out _⟩, ⟨by have := G.out; omega, rfl⟩⟩
    case neg =>
      have cc1 : decide ((k : Int) < (a2.length : Int)) = false := by simpa using hlt
      have cc2 : decide (k < a2.length) = false := by simpa using hlt
      have cc3 : decide ((k : Int) < (dr.length : Int)) = false := by simp; omega
      have cc4 : decide (k < dr.length) = false := by simp; omega
      have qq_r1 : v99.cell? ⟨v33.heap.size, 1, none⟩ = some (.slice A'r dr.length k'r) := (blk_cell BX_r.out 1).trans rfl
      clear hk hg hlt lr l64
      by_cases hx : en = 0
      case pos =>
        have zn : (en != 0) = false := by simpa using hx
        have zm : (em == 0) = true := by simpa using (E8.out hx).1
        have E8b := Aside0.mk (E8.out hx).2
        clear hx
        have q39 : v99.cell? ⟨v15.heap.size, 0, none⟩ = some (.slice Ap sp.length kp) := (blk_cell BX_p.out 0).trans rfl
        have q40 : v99.cell? ⟨v15.heap.size, 1, none⟩ = some (.slice A'p dp.length k'p) := (blk_cell BX_p.out 1).trans rfl
        have q41 : v99.cell? ⟨w.heap.size, 0, none⟩ = some (.slice A0 a1.length c0) := (blk_cell BX_a.out 0).trans rfl
        have q42 : v99.cell? ⟨w.heap.size, 1, none⟩ = some (.slice A1 a2.length c1) := (blk_cell BX_a.out 1).trans rfl
        go_wp2_with fail
        clear q39 q40 q41 q42
        refine (same_r (b := true) E1.out RD_p0.out RD_p1.out RD_a0.out RD_a1.out).mono ?_
        rintro e v43 ⟨rfl, hb⟩
        replace BX_a := Aside0.mk (blk_below BX_a.out hb)
        replace BX_o := Aside0.mk (blk_below BX_o.out hb)
        replace BX_p := Aside0.mk (blk_below BX_p.out hb)
        replace BX_q := Aside0.mk (blk_below BX_q.out hb)
        replace BX_n := Aside0.mk (blk_below BX_n.out hb)
        replace BX_m := Aside0.mk (blk_below BX_m.out hb)
        replace BX_r := Aside0.mk (blk_below BX_r.out hb)
        replace BX_s := Aside0.mk (blk_below BX_s.out hb)
        replace RD_a0 := Aside0.mk (RD_a0.out.below hb)
        replace RD_a1 := Aside0.mk (RD_a1.out.below hb)
        replace RD_o0 := Aside0.mk (RD_o0.out.below hb)
        replace RD_o1 := Aside0.mk (RD_o1.out.below hb)
        replace RD_p0 := Aside0.mk (RD_p0.out.below hb)
        replace RD_p1 := Aside0.mk (RD_p1.out.below hb)
        replace RD_q0 := Aside0.mk (RD_q0.out.below hb)
        replace RD_q1 := Aside0.mk (RD_q1.out.below hb)
        replace RD_n0 := Aside0.mk (RD_n0.out.below hb)
        replace RD_n1 := Aside0.mk (RD_n1.out.below hb)
        replace RD_m0 := Aside0.mk (RD_m0.out.below hb)
        replace RD_m1 := Aside0.mk (RD_m1.out.below hb)
        replace RD_r0 := Aside0.mk (RD_r0.out.below hb)
        replace RD_r1 := Aside0.mk (RD_r1.out.below hb)
        replace RD_s0 := Aside0.mk (RD_s0.out.below hb)
        replace RD_s1 := Aside0.mk (RD_s1.out.below hb)
        replace BW := Aside0.mk (below_then BW.out BW.out.size hb)
        clear hb
        have q44 : v43.cell? ⟨v21.heap.size, 0, none⟩ = some (.slice Aq sq.length kq) := (blk_cell BX_q.out 0).trans rfl
        have q45 : v43.cell? ⟨v21.heap.size, 1, none⟩ = some (.slice A'q dq.length k'q) := (blk_cell BX_q.out 1).trans rfl
        have q46 : v43.cell? ⟨w.heap.size, 0, none⟩ = some (.slice A0 a1.length c0) := (blk_cell BX_a.out 0).trans rfl
        have q47 : v43.cell? ⟨w.heap.size, 1, none⟩ = some (.slice A1 a2.length c1) := (blk_cell BX_a.out 1).trans rfl
        go_wp2_with fail
        clear q44 q45 q46 q47
        refine (same_r (b := true) E3.out RD_q0.out RD_q1.out RD_a0.out RD_a1.out).mono ?_
        rintro e v48 ⟨rfl, hb⟩
        replace BX_a := Aside0.mk (blk_below BX_a.out hb)
        replace BX_o := Aside0.mk (blk_below BX_o.out hb)
        replace BX_p := Aside0.mk (blk_below BX_p.out hb)
        replace BX_q := Aside0.mk (blk_below BX_q.out hb)
        replace BX_n := Aside0.mk (blk_below BX_n.out hb)
        replace BX_m := Aside0.mk (blk_below BX_m.out hb)
        replace BX_r := Aside0.mk (blk_below BX_r.out hb)
        replace BX_s := Aside0.mk (blk_below BX_s.out hb)
        replace RD_a0 := Aside0.mk (RD_a0.out.below hb)
        replace RD_a1 := Aside0.mk (RD_a1.out.below hb)
        replace RD_o0 := Aside0.mk (RD_o0.out.below hb)
        replace RD_o1 := Aside0.mk (RD_o1.out.below hb)
        replace RD_p0 := Aside0.mk (RD_p0.out.below hb)
        replace RD_p1 := Aside0.mk (RD_p1.out.below hb)
        replace RD_q0 := Aside0.mk (RD_q0.out.below hb)
        replace RD_q1 := Aside0.mk (RD_q1.out.below hb)
        replace RD_n0 := Aside0.mk (RD_n0.out.below hb)
        replace RD_n1 := Aside0.mk (RD_n1.out.below hb)
        replace RD_m0 := Aside0.mk (RD_m0.out.below hb)
        replace RD_m1 := Aside0.mk (RD_m1.out.below hb)
        replace RD_r0 := Aside0.mk (RD_r0.out.below hb)
        replace RD_r1 := Aside0.mk (RD_r1.out.below hb)
        replace RD_s0 := Aside0.mk (RD_s0.out.below hb)
        replace RD_s1 := Aside0.mk (RD_s1.out.below hb)
        replace BW := Aside0.mk (below_then BW.out BW.out.size hb)
        clear hb
        have q49 : v48.cell? ⟨v29.heap.size, 0, none⟩ = some (.slice Am sm.length km) := (blk_cell BX_m.out 0).trans rfl
        have q50 : v48.cell? ⟨v29.heap.size, 1, none⟩ = some (.slice A'm dm.length k'm) := (blk_cell BX_m.out 1).trans rfl
        have q51 : v48.cell? ⟨w.heap.size, 0, none⟩ = some (.slice A0 a1.length c0) := (blk_cell BX_a.out 0).trans rfl
        have q52 : v48.cell? ⟨w.heap.size, 1, none⟩ = some (.slice A1 a2.length c1) := (blk_cell BX_a.out 1).trans rfl
        go_wp2_with fail
        clear q49 q50 q51 q52
        refine (same_r (b := true) E8b.out RD_m0.out RD_m1.out RD_a0.out RD_a1.out).mono ?_
        rintro e v53 ⟨rfl, hb⟩
        replace BX_a := Aside0.mk (blk_below BX_a.out hb)
        replace BX_o := Aside0.mk (blk_below BX_o.out hb)
        replace BX_p := Aside0.mk (blk_below BX_p.out hb)
        replace BX_q := Aside0.mk (blk_below BX_q.out hb)
        replace BX_n := Aside0.mk (blk_below BX_n.out hb)
        replace BX_m := Aside0.mk (blk_below BX_m.out hb)
        replace BX_r := Aside0.mk (blk_below BX_r.out hb)
        replace BX_s := Aside0.mk (blk_below BX_s.out hb)
        replace RD_a0 := Aside0.mk (RD_a0.out.below hb)
        replace RD_a1 := Aside0.mk (RD_a1.out.below hb)
        replace RD_o0 := Aside0.mk (RD_o0.out.below hb)
        replace RD_o1 := Aside0.mk (RD_o1.out.below hb)
        replace RD_p0 := Aside0.mk (RD_p0.out.below hb)
        replace RD_p1 := Aside0.mk (RD_p1.out.below hb)
        replace RD_q0 := Aside0.mk (RD_q0.out.below hb)
        replace RD_q1 := Aside0.mk (RD_q1.out.below hb)
        replace RD_n0 := Aside0.mk (RD_n0.out.below hb)
        replace RD_n1 := Aside0.mk (RD_n1.out.below hb)
        replace RD_m0 := Aside0.mk (RD_m0.out.below hb)
        replace RD_m1 := Aside0.mk (RD_m1.out.below hb)
        replace RD_r0 := Aside0.mk (RD_r0.out.below hb)
        replace RD_r1 := Aside0.mk (RD_r1.out.below hb)
        replace RD_s0 := Aside0.mk (RD_s0.out.below hb)
        replace RD_s1 := Aside0.mk (RD_s1.out.below hb)
        replace BW := Aside0.mk (below_then BW.out BW.out.size hb)
        clear hb
        have q54 : v53.cell? ⟨v33.heap.size, 0, none⟩ = some (.slice Ar sr.length kr) := (blk_cell BX_r.out 0).trans rfl
        have q55 : v53.cell? ⟨v33.heap.size, 1, none⟩ = some (.slice A'r dr.length k'r) := (blk_cell BX_r.out 1).trans rfl
        have q56 : v53.cell? ⟨v37.heap.size, 0, none⟩ = some (.slice As ss.length ks) := (blk_cell BX_s.out 0).trans rfl
        have q57 : v53.cell? ⟨v37.heap.size, 1, none⟩ = some (.slice A's ds.length k's) := (blk_cell BX_s.out 1).trans rfl
        go_wp2_with fail
        clear q54 q55 q56 q57
        refine (same_r (b := true) E7.out RD_r0.out RD_r1.out RD_s0.out RD_s1.out).mono ?_
        rintro e v58 ⟨rfl, hb⟩
        replace BX_a := Aside0.mk (blk_below BX_a.out hb)
        replace BX_o := Aside0.mk (blk_below BX_o.out hb)
        replace BX_p := Aside0.mk (blk_below BX_p.out hb)
        replace BX_q := Aside0.mk (blk_below BX_q.out hb)
        replace BX_n := Aside0.mk (blk_below BX_n.out hb)
        replace BX_m := Aside0.mk (blk_below BX_m.out hb)
        replace BX_r := Aside0.mk (blk_below BX_r.out hb)
        replace BX_s := Aside0.mk (blk_below BX_s.out hb)
        replace RD_a0 := Aside0.mk (RD_a0.out.below hb)
        replace RD_a1 := Aside0.mk (RD_a1.out.below hb)
        replace RD_o0 := Aside0.mk (RD_o0.out.below hb)
        replace RD_o1 := Aside0.mk (RD_o1.out.below hb)
        replace RD_p0 := Aside0.mk (RD_p0.out.below hb)
        replace RD_p1 := Aside0.mk (RD_p1.out.below hb)
        replace RD_q0 := Aside0.mk (RD_q0.out.below hb)
        replace RD_q1 := Aside0.mk (RD_q1.out.below hb)
        replace RD_n0 := Aside0.mk (RD_n0.out.below hb)
        replace RD_n1 := Aside0.mk (RD_n1.out.below hb)
        replace RD_m0 := Aside0.mk (RD_m0.out.below hb)
        replace RD_m1 := Aside0.mk (RD_m1.out.below hb)
        replace RD_r0 := Aside0.mk (RD_r0.out.below hb)
        replace RD_r1 := Aside0.mk (RD_r1.out.below hb)
        replace RD_s0 := Aside0.mk (RD_s0.out.below hb)
        replace RD_s1 := Aside0.mk (RD_s1.out.below hb)
        replace BW := Aside0.mk (below_then BW.out BW.out.size hb)
        clear hb
        go_wp2_with fail
        go_ret
        exact ⟨rfl, BW.out⟩
      case neg =>
        have zn : (en != 0) = true := by simpa using hx
        clear hx
        have q39 : v99.cell? ⟨v15.heap.size, 0, none⟩ = some (.slice Ap sp.length kp) := (blk_cell BX_p.out 0).trans rfl
        have q40 : v99.cell? ⟨v15.heap.size, 1, none⟩ = some (.slice A'p dp.length k'p) := (blk_cell BX_p.out 1).trans rfl
        have q41 : v99.cell? ⟨w.heap.size, 0, none⟩ = some (.slice A0 a1.length c0) := (blk_cell BX_a.out 0).trans rfl
        have q42 : v99.cell? ⟨w.heap.size, 1, none⟩ = some (.slice A1 a2.length c1) := (blk_cell BX_a.out 1).trans rfl
        go_wp2_with fail
        clear q39 q40 q41 q42
        refine (same_r (b := true) E1.out RD_p0.out RD_p1.out RD_a0.out RD_a1.out).mono ?_
        rintro e v43 ⟨rfl, hb⟩
        replace BX_a := Aside0.mk (blk_below BX_a.out hb)
        replace BX_o := Aside0.mk (blk_below BX_o.out hb)
        replace BX_p := Aside0.mk (blk_below BX_p.out hb)
        replace BX_q := Aside0.mk (blk_below BX_q.out hb)
        replace BX_n := Aside0.mk (blk_below BX_n.out hb)
        replace BX_m := Aside0.mk (blk_below BX_m.out hb)
        replace BX_r := Aside0.mk (blk_below BX_r.out hb)
        replace BX_s := Aside0.mk (blk_below BX_s.out hb)
        replace RD_a0 := Aside0.mk (RD_a0.out.below hb)
        replace RD_a1 := Aside0.mk (RD_a1.out.below hb)
        replace RD_o0 := Aside0.mk (RD_o0.out.below hb)
        replace RD_o1 := Aside0.mk (RD_o1.out.below hb)
        replace RD_p0 := Aside0.mk (RD_p0.out.below hb)
        replace RD_p1 := Aside0.mk (RD_p1.out.below hb)
        replace RD_q0 := Aside0.mk (RD_q0.out.below hb)
        replace RD_q1 := Aside0.mk (RD_q1.out.below hb)
        replace RD_n0 := Aside0.mk (RD_n0.out.below hb)
        replace RD_n1 := Aside0.mk (RD_n1.out.below hb)
        replace RD_m0 := Aside0.mk (RD_m0.out.below hb)
        replace RD_m1 := Aside0.mk (RD_m1.out.below hb)
        replace RD_r0 := Aside0.mk (RD_r0.out.below hb)
        replace RD_r1 := Aside0.mk (RD_r1.out.below hb)
        replace RD_s0 := Aside0.mk (RD_s0.out.below hb)
        replace RD_s1 := Aside0.mk (RD_s1.out.below hb)
        replace BW := Aside0.mk (below_then BW.out BW.out.size hb)
        clear hb
        have q44 : v43.cell? ⟨v21.heap.size, 0, none⟩ = some (.slice Aq sq.length kq) := (blk_cell BX_q.out 0).trans rfl
        have q45 : v43.cell? ⟨v21.heap.size, 1, none⟩ = some (.slice A'q dq.length k'q) := (blk_cell BX_q.out 1).trans rfl
        have q46 : v43.cell? ⟨w.heap.size, 0, none⟩ = some (.slice A0 a1.length c0) := (blk_cell BX_a.out 0).trans rfl
        have q47 : v43.cell? ⟨w.heap.size, 1, none⟩ = some (.slice A1 a2.length c1) := (blk_cell BX_a.out 1).trans rfl
        go_wp2_with fail
        clear q44 q45 q46 q47
        refine (same_r (b := true) E3.out RD_q0.out RD_q1.out RD_a0.out RD_a1.out).mono ?_
        rintro e v48 ⟨rfl, hb⟩
        replace BX_a := Aside0.mk (blk_below BX_a.out hb)
        replace BX_o := Aside0.mk (blk_below BX_o.out hb)
        replace BX_p := Aside0.mk (blk_below BX_p.out hb)
        replace BX_q := Aside0.mk (blk_below BX_q.out hb)
        replace BX_n := Aside0.mk (blk_below BX_n.out hb)
        replace BX_m := Aside0.mk (blk_below BX_m.out hb)
        replace BX_r := Aside0.mk (blk_below BX_r.out hb)
        replace BX_s := Aside0.mk (blk_below BX_s.out hb)
        replace RD_a0 := Aside0.mk (RD_a0.out.below hb)
        replace RD_a1 := Aside0.mk (RD_a1.out.below hb)
        replace RD_o0 := Aside0.mk (RD_o0.out.below hb)
        replace RD_o1 := Aside0.mk (RD_o1.out.below hb)
        replace RD_p0 := Aside0.mk (RD_p0.out.below hb)
        replace RD_p1 := Aside0.mk (RD_p1.out.below hb)
        replace RD_q0 := Aside0.mk (RD_q0.out.below hb)
        replace RD_q1 := Aside0.mk (RD_q1.out.below hb)
        replace RD_n0 := Aside0.mk (RD_n0.out.below hb)
        replace RD_n1 := Aside0.mk (RD_n1.out.below hb)
        replace RD_m0 := Aside0.mk (RD_m0.out.below hb)
        replace RD_m1 := Aside0.mk (RD_m1.out.below hb)
        replace RD_r0 := Aside0.mk (RD_r0.out.below hb)
        replace RD_r1 := Aside0.mk (RD_r1.out.below hb)
        replace RD_s0 := Aside0.mk (RD_s0.out.below hb)
        replace RD_s1 := Aside0.mk (RD_s1.out.below hb)
        replace BW := Aside0.mk (below_then BW.out BW.out.size hb)
        clear hb
        have q49 : v48.cell? ⟨v33.heap.size, 0, none⟩ = some (.slice Ar sr.length kr) := (blk_cell BX_r.out 0).trans rfl
        have q50 : v48.cell? ⟨v33.heap.size, 1, none⟩ = some (.slice A'r dr.length k'r) := (blk_cell BX_r.out 1).trans rfl
        have q51 : v48.cell? ⟨v37.heap.size, 0, none⟩ = some (.slice As ss.length ks) := (blk_cell BX_s.out 0).trans rfl
        have q52 : v48.cell? ⟨v37.heap.size, 1, none⟩ = some (.slice A's ds.length k's) := (blk_cell BX_s.out 1).trans rfl
        go_wp2_with fail
        clear q49 q50 q51 q52
        refine (same_r (b := true) E7.out RD_r0.out RD_r1.out RD_s0.out RD_s1.out).mono ?_
        rintro e v53 ⟨rfl, hb⟩
        replace BX_a := Aside0.mk (blk_below BX_a.out hb)
        replace BX_o := Aside0.mk (blk_below BX_o.out hb)
        replace BX_p := Aside0.mk (blk_below BX_p.out hb)
        replace BX_q := Aside0.mk (blk_below BX_q.out hb)
        replace BX_n := Aside0.mk (blk_below BX_n.out hb)
        replace BX_m := Aside0.mk (blk_below BX_m.out hb)
        replace BX_r := Aside0.mk (blk_below BX_r.out hb)
        replace BX_s := Aside0.mk (blk_below BX_s.out hb)
        replace RD_a0 := Aside0.mk (RD_a0.out.below hb)
        replace RD_a1 := Aside0.mk (RD_a1.out.below hb)
        replace RD_o0 := Aside0.mk (RD_o0.out.below hb)
        replace RD_o1 := Aside0.mk (RD_o1.out.below hb)
        replace RD_p0 := Aside0.mk (RD_p0.out.below hb)
        replace RD_p1 := Aside0.mk (RD_p1.out.below hb)
        replace RD_q0 := Aside0.mk (RD_q0.out.below hb)
        replace RD_q1 := Aside0.mk (RD_q1.out.below hb)
        replace RD_n0 := Aside0.mk (RD_n0.out.below hb)
        replace RD_n1 := Aside0.mk (RD_n1.out.below hb)
        replace RD_m0 := Aside0.mk (RD_m0.out.below hb)
        replace RD_m1 := Aside0.mk (RD_m1.out.below hb)
        replace RD_r0 := Aside0.mk (RD_r0.out.below hb)
        replace RD_r1 := Aside0.mk (RD_r1.out.below hb)
        replace RD_s0 := Aside0.mk (RD_s0.out.below hb)
        replace RD_s1 := Aside0.mk (RD_s1.out.below hb)
        replace BW := Aside0.mk (below_then BW.out BW.out.size hb)
        clear hb
        go_wp2_with fail
        go_ret
        exact ⟨rfl, BW.out⟩
end Go.Proofs.Ytpnigmcpifilmaa.P
