/- Contract of elem.Two. -/
import Derived.Test.YtpnigmcpifilmaaA13
import Derived.Test.YtpnigmcpifilmaaA14
namespace Go.Proofs.Ytpnigmcpifilmaa.P
open Go.RowKit Go.Shelf Go.Proofs.YtpnigmcpifilmaaW.PrintWords Go.Proofs.YtpnigmcpifilmaaW.PrintLast Go.Proofs.YtpnigmcpifilmaaW.PrintMore
set_option linter.unusedVariables false
set_option linter.unusedSimpArgs false
set_option maxRecDepth 100000 in
theorem two_any (op : Int) (A0 : Option Addr) (c0 : Nat) (a1 : List Int) (A1 : Option Addr) (c1 : Nat) (a2 : List Int) (A2 : Option Addr) (c2 : Nat) (b1 : List Int) (A3 : Option Addr) (c3 : Nat) (b2 : List Int) (w : World)
    (hr0 : Kd.C (Kd.int .i64) w A0 a1.length a1) (hc0 : a1.length ≤ c0) (hr1 : Kd.C (Kd.int .i64) w A1 a2.length a2) (hi : ∀ x ∈ a2, isI64 x)
    (hr2 : Kd.C (Kd.int .i64) w A2 b1.length b1) (hc2 : b1.length ≤ c2) (hr3 : Kd.C (Kd.int .i64) w A3 b2.length b2) (hi2 : ∀ x ∈ b2, isI64 x) :
    Calls Try.prog 17 #[.int .i64 op, .agg #[.slice A0 a1.length c0, .slice A1 a2.length c1], .agg #[.slice A2 b1.length c2, .slice A3 b2.length c3]] w (TPost w (elemTwo op a1 a2 b1 b2)) := by
  have HR := Aside0.mk (And.intro hr0 (And.intro hc0 (And.intro hr1 hi)))
  have HS := Aside0.mk (And.intro hr2 (And.intro hc2 (And.intro hr3 hi2)))
  clear hr0 hc0 hr1 hi hr2 hc2 hr3 hi2
  go_enter Try.func17, Try.ntmps17
  go_wp2_with fail
  obtain ⟨w1, hw1⟩ : ∃ w1, (((w.alloc (Obj.cells #[.slice A0 a1.length c0, .slice A1 a2.length c1] 24)).alloc (Obj.cells #[.slice A2 b1.length c2, .slice A3 b2.length c3] 24)).alloc (Obj.cells #[.slice none 0 0, .slice none 0 0] 24)) = w1 := ⟨_, rfl⟩
  have S1 : Aside0 (w1.heap.size = w.heap.size + 3) := ⟨by rw [← hw1]; exact (Array.size_push _).trans (congrArg (· + 1) ((Array.size_push _).trans (congrArg (· + 1) (Array.size_push _))))⟩
  have BT1 : Aside0 (w1.heap[w.heap.size]? = some (.cells #[.slice A0 a1.length c0, .slice A1 a2.length c1] 24 (0, 0))) := ⟨by rw [← hw1]; exact blk_alloc (blk_alloc (blk_new _ _) _) _⟩
  have BU1 : Aside0 (w1.heap[w.heap.size + 1]? = some (.cells #[.slice A2 b1.length c2, .slice A3 b2.length c3] 24 (0, 0))) := ⟨by rw [← hw1]; have := blk_alloc (blk_new (w.alloc (Obj.cells #[.slice A0 a1.length c0, .slice A1 a2.length c1] 24)) (Obj.cells #[.slice A2 b1.length c2, .slice A3 b2.length c3] 24)) (Obj.cells #[.slice none 0 0, .slice none 0 0] 24); rwa [World.size_alloc] at this⟩
  have BR1 : Aside0 (w1.heap[w.heap.size + 2]? = some (.cells #[.slice none 0 0, .slice none 0 0] 24 (0, 0))) := ⟨by rw [← hw1]; have := blk_new ((w.alloc (Obj.cells #[.slice A0 a1.length c0, .slice A1 a2.length c1] 24)).alloc (Obj.cells #[.slice A2 b1.length c2, .slice A3 b2.length c3] 24)) (Obj.cells #[.slice none 0 0, .slice none 0 0] 24); rwa [World.size_alloc, World.size_alloc] at this⟩
  have B1 : Aside0 (Below w.heap.size w w1) := ⟨by rw [← hw1]; exact below_alloc (below_alloc (below_alloc (Below.refl _ _) _) _) _⟩
  rw [hw1]
  clear hw1
  refine (kinds_any w1).mono ?_
  rintro e w2 ⟨rfl, hm, hb⟩
  have B2 : Aside0 (Below w.heap.size w w2) := ⟨below_then B1.out B1.out.size hb⟩
  have BT2 := Aside0.mk (blk_below BT1.out hb)
  have BU2 := Aside0.mk (blk_below BU1.out hb)
  have BR2 := Aside0.mk (blk_below BR1.out hb)
  have S2 := Aside0.mk hb.size
  have HL := run_kinds op hm
  clear hm hb
  cases ho : twoF op with
  | none =>
    obtain ⟨kv, hkv, hv⟩ := two_none op ho
    rw [hkv] at HL
    have EV : Aside0 (elemTwo op a1 a2 b1 b2 = (([], []), 1)) := ⟨by unfold elemTwo; rw [ho]⟩
    clear ho hkv
    have n1 := eql_nilF (P := Try.prog) Try.underlying34
    rcases hv with rfl | ⟨f, rfl⟩
    · skip
      have BR3 := Aside0.mk (blk_alloc BR2.out (Obj.cells #[.nilFunc, .nilFunc] 65))
      have q1 : (w2.alloc (Obj.cells #[.nilFunc, .nilFunc] 65)).cell? ⟨w.heap.size + 2, 0, none⟩ = some (.slice none 0 0) := (blk_cell BR3.out 0).trans rfl
      have q2 : (w2.alloc (Obj.cells #[.nilFunc, .nilFunc] 65)).cell? ⟨w.heap.size + 2, 1, none⟩ = some (.slice none 0 0) := (blk_cell BR3.out 1).trans rfl
      have q3 := blk_frozen BR3.out 0
      have q4 := blk_frozen BR3.out 1
      have B3 : Aside0 (Below w.heap.size w (w2.alloc (Obj.cells #[.nilFunc, .nilFunc] 65))) := ⟨below_alloc B2.out _⟩
      go_wp2_with fail
      exact end_err rfl _ w _ (w.heap.size + 2) 1 rfl rfl B3.out (by omega) BR3.out _ EV.out
    · skip
      have BR3 := Aside0.mk (blk_alloc BR2.out (Obj.cells #[.func (.func f) #[] #[], .nilFunc] 65))
      have q1 : (w2.alloc (Obj.cells #[.func (.func f) #[] #[], .nilFunc] 65)).cell? ⟨w.heap.size + 2, 0, none⟩ = some (.slice none 0 0) := (blk_cell BR3.out 0).trans rfl
      have q2 : (w2.alloc (Obj.cells #[.func (.func f) #[] #[], .nilFunc] 65)).cell? ⟨w.heap.size + 2, 1, none⟩ = some (.slice none 0 0) := (blk_cell BR3.out 1).trans rfl
      have q3 := blk_frozen BR3.out 0
      have q4 := blk_frozen BR3.out 1
      have B3 : Aside0 (Below w.heap.size w (w2.alloc (Obj.cells #[.func (.func f) #[] #[], .nilFunc] 65))) := ⟨below_alloc B2.out _⟩
      go_wp2_with fail
      exact end_err rfl _ w _ (w.heap.size + 2) 1 rfl rfl B3.out (by omega) BR3.out _ EV.out
  | some F =>
    obtain ⟨f, hkv, he, hF⟩ := two_kind op F ho
    rw [hkv] at HL
    have n2 := eql_someF (P := Try.prog) Try.underlying34 f
    have HF := Aside0.mk hF
    have HO := Aside0.mk ho
    clear hF ho hkv
    have BK3 : Aside0 ((w2.alloc (Obj.cells #[.nilFunc, .func (.func f) #[] #[]] 65)).heap[w2.heap.size]? = some (.cells #[.nilFunc, .func (.func f) #[] #[]] 65 (0, 0))) := ⟨blk_new _ _⟩
    have BR3 := Aside0.mk (blk_alloc BR2.out (Obj.cells #[.nilFunc, .func (.func f) #[] #[]] 65))
    have BT3 := Aside0.mk (blk_alloc BT2.out (Obj.cells #[.nilFunc, .func (.func f) #[] #[]] 65))
    have BU3 := Aside0.mk (blk_alloc BU2.out (Obj.cells #[.nilFunc, .func (.func f) #[] #[]] 65))
    have B3 : Aside0 (Below w.heap.size w (w2.alloc (Obj.cells #[.nilFunc, .func (.func f) #[] #[]] 65))) := ⟨below_alloc B2.out _⟩
    have S3 : Aside0 ((w2.alloc (Obj.cells #[.nilFunc, .func (.func f) #[] #[]] 65)).heap.size = w2.heap.size + 1) := ⟨Array.size_push _⟩
    obtain ⟨w3, hw3⟩ : ∃ w3, (w2.alloc (Obj.cells #[.nilFunc, .func (.func f) #[] #[]] 65)) = w3 := ⟨_, rfl⟩
    have q1 : (w2.alloc (Obj.cells #[.nilFunc, .func (.func f) #[] #[]] 65)).cell? ⟨w.heap.size, 0, none⟩ = some (.slice A0 a1.length c0) := (blk_cell BT3.out 0).trans rfl
    have q2 : (w2.alloc (Obj.cells #[.nilFunc, .func (.func f) #[] #[]] 65)).cell? ⟨w.heap.size, 1, none⟩ = some (.slice A1 a2.length c1) := (blk_cell BT3.out 1).trans rfl
    rw [hw3] at BK3 BR3 BT3 BU3 B3 S3
    have HW3 := Aside0.mk hw3
    clear hw3
    go_wp2_with fail
    rw [HW3.out]
    clear q1 q2
    refine (tcheck_any A0 c0 a1 A1 c1 a2 w3 (Kd.C_below HR.out.1 B3.out)).mono ?_
    by_cases ht : tOk a1 a2 = true
    · rw [ht]
      have HT := Aside0.mk ht
      clear ht
      rintro e w4 ⟨rfl, hb⟩
      have B4 : Aside0 (Below w.heap.size w w4) := ⟨below_then B3.out B3.out.size hb⟩
      have BK4 := Aside0.mk (blk_below BK3.out hb)
      have BT4 := Aside0.mk (blk_below BT3.out hb)
      have BU4 := Aside0.mk (blk_below BU3.out hb)
      have BR4 := Aside0.mk (blk_below BR3.out hb)
      have S4 := Aside0.mk hb.size
      clear hb
      have p1 : w4.cell? ⟨w.heap.size + 1, 0, none⟩ = some (.slice A2 b1.length c2) := (blk_cell BU4.out 0).trans rfl
      have p2 : w4.cell? ⟨w.heap.size + 1, 1, none⟩ = some (.slice A3 b2.length c3) := (blk_cell BU4.out 1).trans rfl
      go_wp2_with fail
      refine (tcheck_any A2 c2 b1 A3 c3 b2 w4 (Kd.C_below HS.out.1 B4.out)).mono ?_
      clear p1 p2
      by_cases hu : tOk b1 b2 = true
      · rw [hu]
        have HU := Aside0.mk hu
        clear hu
        rintro e w5 ⟨rfl, hb⟩
        have B5 : Aside0 (Below w.heap.size w w5) := ⟨below_then B4.out B4.out.size hb⟩
        have BK5 := Aside0.mk (blk_below BK4.out hb)
        have BT5 := Aside0.mk (blk_below BT4.out hb)
        have BU5 := Aside0.mk (blk_below BU4.out hb)
        have BR5 := Aside0.mk (blk_below BR4.out hb)
        have S5 := Aside0.mk hb.size
        clear hb
        have p1 : w5.cell? ⟨w.heap.size, 0, none⟩ = some (.slice A0 a1.length c0) := (blk_cell BT5.out 0).trans rfl
        have p2 : w5.cell? ⟨w.heap.size + 1, 0, none⟩ = some (.slice A2 b1.length c2) := (blk_cell BU5.out 0).trans rfl
        go_wp2_with fail
        refine (join_C A0 c0 a1 A2 c2 b1 w5 (Kd.C_below HR.out.1 B5.out) HR.out.2.1 (Kd.C_below HS.out.1 B5.out) HS.out.2.1).mono ?_
        clear p1 p2
        by_cases hj : joinOk a1 b1 = true
        · rw [hj]
          simp only [if_true]
          have HJ := Aside0.mk hj
          clear hj
          rintro e w6 ⟨v, rfl, ⟨As, cs, rfl, hcs, hrs⟩, hb⟩
          have RS := Aside0.mk (And.intro hrs hcs)
          have B6 : Aside0 (Below w.heap.size w w6) := ⟨below_then B5.out B5.out.size hb⟩
          have BK6 := Aside0.mk (blk_below BK5.out hb)
          have BT6 := Aside0.mk (blk_below BT5.out hb)
          have BU6 := Aside0.mk (blk_below BU5.out hb)
          have BR6 := Aside0.mk (blk_below BR5.out hb)
          have S6 := Aside0.mk hb.size
          clear hb hcs hrs
          have p1 : w6.cell? ⟨w.heap.size, 0, none⟩ = some (.slice A0 a1.length c0) := (blk_cell BT6.out 0).trans rfl
          have p2 : w6.cell? ⟨w.heap.size, 1, none⟩ = some (.slice A1 a2.length c1) := (blk_cell BT6.out 1).trans rfl
          have FA := Aside0.mk (fits_join HJ.out)
          have FB := Aside0.mk (fits_join' HJ.out)
          have FA' := Aside0.mk (fits_parts FA.out)
          have FB' := Aside0.mk (fits_parts FB.out)
          obtain ⟨S, hS⟩ : ∃ S, S = joinL a1 b1 := ⟨_, rfl⟩
          rw [← hS] at RS FA FB FA' FB' ⊢
          have SS := Aside0.mk hS
          clear hS
          go_wp2_with fail
          refine (spread_ok A0 c0 a1 A1 c1 a2 As cs S w6 (Kd.C_below HR.out.1 B6.out) HR.out.2.1 (Kd.C_below HR.out.2.2.1 B6.out) RS.out.1 RS.out.2 HT.out FA.out FA'.out.2.2.2 FA'.out.2.2.1 FA'.out.2.1).mono ?_
          clear p1 p2
          rintro e w7 ⟨v0, v1, rfl, h0, h1, hb⟩
          have X0 := Aside0.mk h0
          have X1 := Aside0.mk h1
          obtain ⟨Ax0, cx0, rfl, _, _⟩ := h0
          obtain ⟨Ax, cx, rfl, _, _⟩ := h1
          have RS7 : Aside0 (Kd.C (Kd.int .i64) w7 As S.length S) := ⟨Kd.C_below RS.out.1 hb⟩
          have B7 : Aside0 (Below w.heap.size w w7) := ⟨below_then B6.out B6.out.size hb⟩
          have BK7 := Aside0.mk (blk_below BK6.out hb)
          have BU7 := Aside0.mk (blk_below BU6.out hb)
          have BR7 := Aside0.mk (blk_below BR6.out hb)
          have S7 := Aside0.mk hb.size
          clear hb
          have BX8 : Aside0 ((w7.alloc (Obj.cells #[.slice Ax0 S.length cx0, .slice Ax (spreadD a1 a2 S).length cx] 24)).heap[w7.heap.size]? = some (.cells #[.slice Ax0 S.length cx0, .slice Ax (spreadD a1 a2 S).length cx] 24 (0, 0))) := ⟨blk_new _ _⟩
          have BK8 := Aside0.mk (blk_alloc BK7.out (Obj.cells #[.slice Ax0 S.length cx0, .slice Ax (spreadD a1 a2 S).length cx] 24))
          have BU8 := Aside0.mk (blk_alloc BU7.out (Obj.cells #[.slice Ax0 S.length cx0, .slice Ax (spreadD a1 a2 S).length cx] 24))
          have BR8 := Aside0.mk (blk_alloc BR7.out (Obj.cells #[.slice Ax0 S.length cx0, .slice Ax (spreadD a1 a2 S).length cx] 24))
          have B8 : Aside0 (Below w.heap.size w (w7.alloc (Obj.cells #[.slice Ax0 S.length cx0, .slice Ax (spreadD a1 a2 S).length cx] 24))) := ⟨below_alloc B7.out _⟩
          have RS8 : Aside0 (Kd.C (Kd.int .i64) (w7.alloc (Obj.cells #[.slice Ax0 S.length cx0, .slice Ax (spreadD a1 a2 S).length cx] 24)) As S.length S) := ⟨Kd.C_below RS7.out (below_alloc (Below.refl _ _) _)⟩
          have X18 : Aside0 (Rd (w7.alloc (Obj.cells #[.slice Ax0 S.length cx0, .slice Ax (spreadD a1 a2 S).length cx] 24)) (.slice Ax (spreadD a1 a2 S).length cx) (spreadD a1 a2 S)) := ⟨X1.out.below (below_alloc (Below.refl _ _) _)⟩
          have S8 : Aside0 ((w7.alloc (Obj.cells #[.slice Ax0 S.length cx0, .slice Ax (spreadD a1 a2 S).length cx] 24)).heap.size = w7.heap.size + 1) := ⟨Array.size_push _⟩
          have p1 : (w7.alloc (Obj.cells #[.slice Ax0 S.length cx0, .slice Ax (spreadD a1 a2 S).length cx] 24)).cell? ⟨w.heap.size + 1, 0, none⟩ = some (.slice A2 b1.length c2) := (blk_cell BU8.out 0).trans rfl
          have p2 : (w7.alloc (Obj.cells #[.slice Ax0 S.length cx0, .slice Ax (spreadD a1 a2 S).length cx] 24)).cell? ⟨w.heap.size + 1, 1, none⟩ = some (.slice A3 b2.length c3) := (blk_cell BU8.out 1).trans rfl
          obtain ⟨w8, hw8⟩ : ∃ w8, (w7.alloc (Obj.cells #[.slice Ax0 S.length cx0, .slice Ax (spreadD a1 a2 S).length cx] 24)) = w8 := ⟨_, rfl⟩
          rw [hw8] at BX8 BK8 BU8 BR8 B8 RS8 X18 S8
          have HW8 := Aside0.mk hw8
          clear hw8
          go_wp2_with fail
          rw [HW8.out]
          clear p1 p2
          refine (spread_ok A2 c2 b1 A3 c3 b2 As cs S w8 (Kd.C_below HS.out.1 B8.out) HS.out.2.1 (Kd.C_below HS.out.2.2.1 B8.out) RS8.out RS.out.2 HU.out FB.out FB'.out.2.2.2 FB'.out.2.2.1 FB'.out.2.1).mono ?_
          rintro e w9 ⟨v0, v1, rfl, h0, h1, hb⟩
          have Y1 := Aside0.mk h1
          obtain ⟨Ay0, cy0, rfl, _, _⟩ := h0
          obtain ⟨Ay, cy, rfl, _, _⟩ := h1
          have RS9 : Aside0 (Kd.C (Kd.int .i64) w9 As S.length S) := ⟨Kd.C_below RS8.out hb⟩
          have X19 : Aside0 (Rd w9 (.slice Ax (spreadD a1 a2 S).length cx) (spreadD a1 a2 S)) := ⟨X18.out.below hb⟩
          have B9 : Aside0 (Below w.heap.size w w9) := ⟨below_then B8.out B8.out.size hb⟩
          have BK9 := Aside0.mk (blk_below BK8.out hb)
          have BX9 := Aside0.mk (blk_below BX8.out hb)
          have BR9 := Aside0.mk (blk_below BR8.out hb)
          have S9 := Aside0.mk hb.size
          clear hb
          have BY10 : Aside0 ((w9.alloc (Obj.cells #[.slice Ay0 S.length cy0, .slice Ay (spreadD b1 b2 S).length cy] 24)).heap[w9.heap.size]? = some (.cells #[.slice Ay0 S.length cy0, .slice Ay (spreadD b1 b2 S).length cy] 24 (0, 0))) := ⟨blk_new _ _⟩
          have BK10 := Aside0.mk (blk_alloc BK9.out (Obj.cells #[.slice Ay0 S.length cy0, .slice Ay (spreadD b1 b2 S).length cy] 24))
          have BX10 := Aside0.mk (blk_alloc BX9.out (Obj.cells #[.slice Ay0 S.length cy0, .slice Ay (spreadD b1 b2 S).length cy] 24))
          have BR10 := Aside0.mk (blk_alloc BR9.out (Obj.cells #[.slice Ay0 S.length cy0, .slice Ay (spreadD b1 b2 S).length cy] 24))
          have B10 : Aside0 (Below w.heap.size w (w9.alloc (Obj.cells #[.slice Ay0 S.length cy0, .slice Ay (spreadD b1 b2 S).length cy] 24))) := ⟨below_alloc B9.out _⟩
          have RS10 : Aside0 (Kd.C (Kd.int .i64) (w9.alloc (Obj.cells #[.slice Ay0 S.length cy0, .slice Ay (spreadD b1 b2 S).length cy] 24)) As S.length S) := ⟨Kd.C_below RS9.out (below_alloc (Below.refl _ _) _)⟩
          have X110 : Aside0 (Rd (w9.alloc (Obj.cells #[.slice Ay0 S.length cy0, .slice Ay (spreadD b1 b2 S).length cy] 24)) (.slice Ax (spreadD a1 a2 S).length cx) (spreadD a1 a2 S)) := ⟨X19.out.below (below_alloc (Below.refl _ _) _)⟩
          have Y110 : Aside0 (Rd (w9.alloc (Obj.cells #[.slice Ay0 S.length cy0, .slice Ay (spreadD b1 b2 S).length cy] 24)) (.slice Ay (spreadD b1 b2 S).length cy) (spreadD b1 b2 S)) := ⟨Y1.out.below (below_alloc (Below.refl _ _) _)⟩
          have S10 : Aside0 ((w9.alloc (Obj.cells #[.slice Ay0 S.length cy0, .slice Ay (spreadD b1 b2 S).length cy] 24)).heap.size = w9.heap.size + 1) := ⟨Array.size_push _⟩
          obtain ⟨w10, hw10⟩ : ∃ w10, (w9.alloc (Obj.cells #[.slice Ay0 S.length cy0, .slice Ay (spreadD b1 b2 S).length cy] 24)) = w10 := ⟨_, rfl⟩
          rw [hw10] at BY10 BK10 BX10 BR10 B10 RS10 X110 Y110 S10
          have HW10 := Aside0.mk hw10
          clear hw10
          go_wp2_with fail
          rw [HW10.out]
          refine (each_any 47 #[.pointer (some ⟨w2.heap.size, 0, none⟩), .pointer (some ⟨w7.heap.size, 0, none⟩), .pointer (some ⟨w9.heap.size, 0, none⟩)] (enters_of Try.func47 (by kernel_rfl) rfl) As cs S (twoG F a1 a2 b1 b2 S) w10 RS10.out RS.out.2 FA'.out.2.1 (fun k hk W hW => ?_)).mono ?_
          · obtain ⟨_, _, e1, _, rx⟩ := X110.out.below hW
            cases e1
            obtain ⟨_, _, e2, _, ry⟩ := Y110.out.below hW
            cases e2
            have hl1 := spreadD_length a1 a2 S
            have hl2 := spreadD_length b1 b2 S
            have r1 : isI64 (rd (spreadD a1 a2 S) k) := by
              rw [spread_rd _ _ _ _ hk]
              have fl := fromS_lt a1 S (k : Int) FA'.out.2.2.2 FA'.out.1 FA'.out.2.1 (by omega)
              obtain ⟨j, hj⟩ := Int.eq_ofNat_of_zero_le fl.1
              rw [hj] at fl ⊢
              have tk := HT.out
              simp only [tOk, Bool.and_eq_true, decide_eq_true_eq] at tk
              exact HR.out.2.2.2 _ (rd_mem _ _ (by omega))
            have r2 : isI64 (rd (spreadD b1 b2 S) k) := by
              rw [spread_rd _ _ _ _ hk]
              have fl := fromS_lt b1 S (k : Int) FB'.out.2.2.2 FB'.out.1 FB'.out.2.1 (by omega)
              obtain ⟨j, hj⟩ := Int.eq_ofNat_of_zero_le fl.1
              rw [hj] at fl ⊢
              have tk := HU.out
              simp only [tOk, Bool.and_eq_true, decide_eq_true_eq] at tk
              exact HS.out.2.2.2 _ (rd_mem _ _ (by omega))
            exact two1_any f he w2.heap.size w7.heap.size w9.heap.size .nilFunc (.slice Ax0 S.length cx0) (.slice Ay0 S.length cy0) Ax Ay cx cy (spreadD a1 a2 S) (spreadD b1 b2 S) k F W (blk_below BK10.out hW) (blk_below BX10.out hW) (blk_below BY10.out hW) rx ry (by omega) (by omega) (by have := sizeS_le S; omega) (fun W' => HF.out _ _ r1 r2 W')
          rintro e w11 ⟨v0, v1, rfl, h0, h1, hb⟩
          have EV : Aside0 (elemTwo op a1 a2 b1 b2 = eachR (twoG F a1 a2 b1 b2 S) S) := ⟨by unfold elemTwo; rw [HO.out]; simp only [HT.out, HU.out, HJ.out, Bool.and_self, if_true]; rw [SS.out]⟩
          have H0 := Aside0.mk h0
          have H1 := Aside0.mk h1
          obtain ⟨Z0, y0, rfl, _, _⟩ := h0.rd
          obtain ⟨Z1, y1, rfl, _, _⟩ := h1.rd
          have BR11 := Aside0.mk (blk_below BR10.out hb)
          have B11 : Aside0 (Below w.heap.size w w11) := ⟨below_then B10.out B10.out.size hb⟩
          have q1 : w11.cell? ⟨w.heap.size + 2, 0, none⟩ = some (.slice none 0 0) := (blk_cell BR11.out 0).trans rfl
          have q2 : w11.cell? ⟨w.heap.size + 2, 1, none⟩ = some (.slice none 0 0) := (blk_cell BR11.out 1).trans rfl
          have q3 := blk_frozen BR11.out 0
          have q4 := blk_frozen BR11.out 1
          obtain ⟨er, her⟩ : ∃ er, errG (twoG F a1 a2 b1 b2 S) (sizeS S) = er := ⟨_, rfl⟩
          rw [her]
          have ER := Aside0.mk her
          clear hb h0 h1 her
          go_wp2_with fail
          rw [EV.out]
          exact end_val rfl _ w w11 (w.heap.size + 2) _ _ _ rfl (by unfold eachR; rw [ER.out]; rfl) B11.out (by omega) BR11.out w10.heap.size (by have := S1.out; have := S2.out; have := S3.out; have := S4.out; have := S5.out; have := S6.out; have := S7.out; have := S8.out; have := S9.out; have := S10.out; omega) (by have := B10.out.size; omega) H0.out H1.out
        · have hj' : joinOk a1 b1 = false := by simpa using hj
          rw [hj']
          simp only [Bool.false_eq_true, if_false]
          have EV : Aside0 (elemTwo op a1 a2 b1 b2 = (([], []), 20)) := ⟨by unfold elemTwo; rw [HO.out]; simp only [HT.out, HU.out, hj', Bool.and_self, if_true, Bool.false_eq_true, if_false]⟩
          clear hj hj'
          rintro e w6 ⟨v, rfl, ⟨As, cs, rfl, hcs, hrs⟩, hb⟩
          have B6 : Aside0 (Below w.heap.size w w6) := ⟨below_then B5.out B5.out.size hb⟩
          have BR6 := Aside0.mk (blk_below BR5.out hb)
          clear hb hcs hrs
          have q1 : w6.cell? ⟨w.heap.size + 2, 0, none⟩ = some (.slice none 0 0) := (blk_cell BR6.out 0).trans rfl
          have q2 : w6.cell? ⟨w.heap.size + 2, 1, none⟩ = some (.slice none 0 0) := (blk_cell BR6.out 1).trans rfl
          have q3 := blk_frozen BR6.out 0
          have q4 := blk_frozen BR6.out 1
          go_wp2_with fail
          exact end_err rfl _ w _ (w.heap.size + 2) 20 rfl rfl B6.out (by omega) BR6.out _ EV.out
      · have hu' : tOk b1 b2 = false := by simpa using hu
        rw [hu']
        have EV : Aside0 (elemTwo op a1 a2 b1 b2 = (([], []), 30)) := ⟨by unfold elemTwo; rw [HO.out]; simp only [hu', Bool.and_false, Bool.false_eq_true, if_false]⟩
        clear hu hu'
        rintro e w5 ⟨rfl, hb⟩
        have B5 : Aside0 (Below w.heap.size w w5) := ⟨below_then B4.out B4.out.size hb⟩
        have BR5 := Aside0.mk (blk_below BR4.out hb)
        clear hb
        have q1 : w5.cell? ⟨w.heap.size + 2, 0, none⟩ = some (.slice none 0 0) := (blk_cell BR5.out 0).trans rfl
        have q2 : w5.cell? ⟨w.heap.size + 2, 1, none⟩ = some (.slice none 0 0) := (blk_cell BR5.out 1).trans rfl
        have q3 := blk_frozen BR5.out 0
        have q4 := blk_frozen BR5.out 1
        go_wp2_with fail
        exact end_err rfl _ w _ (w.heap.size + 2) 30 rfl rfl B5.out (by omega) BR5.out _ EV.out
    · have ht' : tOk a1 a2 = false := by simpa using ht
      rw [ht']
      have EV : Aside0 (elemTwo op a1 a2 b1 b2 = (([], []), 30)) := ⟨by unfold elemTwo; rw [HO.out]; simp only [ht', Bool.false_and, Bool.false_eq_true, if_false]⟩
      clear ht ht'
      rintro e w4 ⟨rfl, hb⟩
      have B4 : Aside0 (Below w.heap.size w w4) := ⟨below_then B3.out B3.out.size hb⟩
      have BR4 := Aside0.mk (blk_below BR3.out hb)
      clear hb
      have q1 : w4.cell? ⟨w.heap.size + 2, 0, none⟩ = some (.slice none 0 0) := (blk_cell BR4.out 0).trans rfl
      have q2 : w4.cell? ⟨w.heap.size + 2, 1, none⟩ = some (.slice none 0 0) := (blk_cell BR4.out 1).trans rfl
      have q3 := blk_frozen BR4.out 0
      have q4 := blk_frozen BR4.out 1
      go_wp2_with fail
      exact end_err rfl _ w _ (w.heap.size + 2) 30 rfl rfl B4.out (by omega) BR4.out _ EV.out
end Go.Proofs.Ytpnigmcpifilmaa.P
