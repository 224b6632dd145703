/- Contract of elem.each. -/
import Derived.Test.YtpnigmcpifilmaaA10
namespace Go.Proofs.Ytpnigmcpifilmaa.P
open Go.RowKit Go.Shelf Go.Proofs.YtpnigmcpifilmaaW.PrintWords Go.Proofs.YtpnigmcpifilmaaW.PrintLast Go.Proofs.YtpnigmcpifilmaaW.PrintMore
set_option linter.unusedVariables false
set_option linter.unusedSimpArgs false
/-! elem.each -/
/-- A value reads these numbers in every world that has the blocks from n on as this one has them. -/
def RdN (n : Nat) (w : World) (v : Value) (l : List Int) : Prop := ∀ w2 : World, (∀ k, n ≤ k → k < w.heap.size → w2.heap[k]? = w.heap[k]?) → Rd w2 v l
theorem RdN.rd {n : Nat} {w : World} {v : Value} {l : List Int} (h : RdN n w v l) : Rd w v l := h w (fun _ _ _ => rfl)
theorem RdN.nil (n : Nat) (w : World) : RdN n w (.slice none 0 0) [] := fun _ _ => Rd.nil _
theorem set_size (w : World) (p : Addr) (v : Value) : (w.setCell p v).heap.size = w.heap.size := by simp [World.setCell]
def errG (G : Nat → Int × Int) : Nat → Int
  | 0 => 0
  | k + 1 => if errG G k = 0 then (G k).2 else errG G k
def dataG (G : Nat → Int × Int) (n : Nat) : List Int := (List.range n).map fun k => (G k).1
theorem errG_stay (G : Nat → Int × Int) (k : Nat) (h : errG G k ≠ 0) : ∀ n, k ≤ n → errG G n = errG G k
  | 0, hn => by rw [show k = 0 by omega]
  | n + 1, hn => by
    by_cases e : k = n + 1
    · rw [e]
    · have ih := errG_stay G k h n (by omega)
      simp only [errG]
      rw [if_neg (by rw [ih]; exact h), ih]
theorem dataG_succ (G : Nat → Int × Int) (n : Nat) : dataG G (n + 1) = dataG G n ++ [(G n).1] := by simp [dataG, List.range_succ]
def eachS (G : Nat → Int × Int) (s : List Int) : List Int := if errG G (sizeS s) = 0 then s else []
def eachD (G : Nat → Int × Int) (s : List Int) : List Int := if errG G (sizeS s) = 0 then dataG G (sizeS s) else []
set_option maxRecDepth 100000 in
theorem each_any (fid : Nat) (caps : Array Value) (he : ∀ args w, (callFunc fid args).run Try.prog w = .ok (.enter fid args) w) (A0 : Option Addr) (c0 : Nat) (s : List Int) (G : Nat → Int × Int) (w : World) (hr0 : Kd.C (Kd.int .i64) w A0 s.length s) (hc0 : s.length ≤ c0) (ok : shapeOk s = true)
    (hG : ∀ k, k < sizeS s → ∀ W, Below w.heap.size w W → Calls Try.prog fid (#[.int .i64 (k : Nat)] ++ caps) W fun e W' => e = .returned (.tuple #[.int .i64 (G k).1, .int .i64 (G k).2]) ∧ Below W.heap.size W W') :
    Calls Try.prog 46 #[.slice A0 s.length c0, .func (.func fid) #[] caps] w fun e w' => ∃ v0 v1 : Value, e = .returned (.tuple #[.agg #[v0, v1], .int .i64 (errG G (sizeS s))]) ∧ RdN w.heap.size w' v0 (eachS G s) ∧ RdN w.heap.size w' v1 (eachD G s) ∧ Below w.heap.size w w' := by
  have HR := Aside0.mk hr0
  have HC := Aside0.mk hc0
  have hl := shapeOk_len ok
  have HG := Aside0.mk hG
  clear hr0 hc0 hG ok
  go_enter Try.func46, Try.ntmps46
  go_wp2_with fail
  obtain ⟨w1, hw1⟩ : ∃ w1, w.alloc (Obj.cells #[.slice none 0 0, .slice none 0 0] 24) = w1 := ⟨_, rfl⟩
  have BK1 : Aside0 (w1.heap[w.heap.size]? = some (.cells #[.slice none 0 0, .slice none 0 0] 24 (0, 0))) := ⟨by rw [← hw1]; exact blk_new _ _⟩
  have B1 : Aside0 (Below w.heap.size w w1) := ⟨by rw [← hw1]; exact below_alloc (Below.refl _ _) _⟩
  have S1 : Aside0 (w1.heap.size = w.heap.size + 1) := ⟨by rw [← hw1]; exact Array.size_push _⟩
  rw [hw1]
  clear hw1
  refine (slices_Clone_int_int.calls A0 c0 s s w1 (Kd.C_below HR.out B1.out) HC.out (by unfold slices_Clone_int_int.f; rw [if_pos (by omega)])).mono ?_
  rintro e w2 ⟨v0, rfl, hr, hb⟩
  obtain ⟨Av, cv, rfl, hcv, hrv⟩ := Rd.of_R hr
  have OW0 := Aside0.mk (ofR hr)
  clear hcv hrv
  have B2 := Aside0.mk hb
  have BK2 := Aside0.mk (blk_below BK1.out hb)
  clear hr hb
  go_wp2_with fail
  obtain ⟨w3, hw3⟩ : ∃ w3, w2.alloc (Obj.cells #[.slice Av s.length cv, .slice none 0 0] 24) = w3 := ⟨_, rfl⟩
  have B3 : Aside0 (Below w2.heap.size w2 w3) := ⟨by rw [← hw3]; exact below_alloc (Below.refl _ _) _⟩
  have S3 : Aside0 (w3.heap.size = w2.heap.size + 1) := ⟨by rw [← hw3]; exact Array.size_push _⟩
  have BO3 : Aside0 (w3.heap[w2.heap.size]? = some (.cells #[.slice Av s.length cv, .slice none 0 0] 24 (0, 0))) := ⟨by rw [← hw3]; exact blk_new _ _⟩
  rw [hw3]
  clear hw3
  have BW2 : Aside0 (Below w.heap.size w w2) := ⟨below_then B1.out B1.out.size B2.out⟩
  have BW3 : Aside0 (Below w.heap.size w w3) := ⟨below_then BW2.out BW2.out.size B3.out⟩
  refine (size_sh A0 c0 s w3 (Kd.C_below HR.out BW3.out)).mono ?_
  rintro e w' ⟨rfl, rfl⟩
  obtain ⟨N, hN⟩ : ∃ N, N = sizeS s := ⟨_, rfl⟩
  have hN64 : N ≤ 64 := by rw [hN]; exact sizeS_le s
  rw [← hN]
  have NN := Aside0.mk hN
  clear hN
  go_wp2_with fail
  go_loopg [15] N (fun g i wr => ∃ (k : Nat) (dv : Value), i = .int .i64 k ∧ Aside0 (wr.ownsRow w3.heap.size 3 1 dv (dataG G k).length (nums .i64 (dataG G k))) ∧ Aside0 (wr.heap[w2.heap.size]? = some (.cells #[.slice Av s.length cv, dv] 24 (0, 0))) ∧ Aside0 (Below w2.heap.size w3 wr) ∧ Aside0 (k ≤ N ∧ g = N - k ∧ errG G k = 0))
  case atStart =>
    refine ⟨0, .slice none 0 0, rfl, ⟨?_⟩, BO3, ⟨Below.refl _ _⟩, ⟨by omega, by omega, rfl⟩⟩
    exact own_nil _ _ _ _
  case round =>
    obtain ⟨k, dv, rfl, hO, hB, hW, hk⟩ := hrel
    obtain ⟨hk1, hg, hek⟩ := hk.out
    obtain ⟨w4, rfl⟩ : ∃ w4, w4 = wr := ⟨_, rfl⟩
    obtain ⟨Ad, cd, rfl⟩ := own_slice hO.out
    have BW4 : Aside0 (Below w.heap.size w w4) := ⟨BW3.out.trans (hW.out.mono BW2.out.size)⟩
    have S4 : Aside0 (w3.heap.size ≤ w4.heap.size) := ⟨hW.out.size⟩
    by_cases hlt : k < N
    · have c1 : decide ((k : Int) < (N : Int)) = true := by simpa using hlt
      have c2 : decide (k < N) = true := by simpa using hlt
      have w1' : IntKind.i64.wrap ((k : Int) + 1) = ((k + 1 : Nat) : Int) := by rw [wrap_in _ ⟨by omega, by omega⟩]; omega
      have hcall := HG.out k (by have := NN.out; omega) w4 BW4.out
      have HCALL := Aside0.mk hcall
      have GG := Aside0.mk (And.intro hg (And.intro hek hlt))
      clear hg hek hcall hk
      go_wp2_with fail
      refine HCALL.out.mono ?_
      rintro e w5 ⟨rfl, hb5⟩
      have B5 := Aside0.mk hb5
      clear hb5
      have hO5 : Aside0 (w5.ownsRow w3.heap.size 3 1 (.slice Ad (dataG G k).length cd) (dataG G k).length (nums .i64 (dataG G k))) := ⟨own_keep hO.out (fun g _ hg => B5.out.block g hg)⟩
      have hB5 := Aside0.mk (blk_below hB.out B5.out)
      obtain ⟨x, hx⟩ : ∃ x, (G k).1 = x := ⟨_, rfl⟩
      obtain ⟨y, hy⟩ : ∃ x, (G k).2 = x := ⟨_, rfl⟩
      rw [hx, hy]
      have GX := Aside0.mk (And.intro hx hy)
      clear hx hy
      have hq1 : w5.cell? ⟨w2.heap.size, 0, none⟩ = some (.slice Av s.length cv) := (blk_cell hB5.out 0).trans rfl
      have hq2 : w5.cell? ⟨w2.heap.size, 1, none⟩ = some (.slice Ad (dataG G k).length cd) := (blk_cell hB5.out 1).trans rfl
      by_cases hz : y = 0
      · have d1 : (y != 0) = false := by simpa using hz
        have HZ := Aside0.mk hz
        clear hz
        go_wp2_with (at_builtin; refine print_append_num (w0 := w5) w3.heap.size rfl _ _ 22 3 .i64 8 rfl Try.underlying22 infoInt (by decide) (.slice Ad (dataG G k).length cd) (dataG G k) x rfl rfl hO5.out ?_ ?_ ?_ ?_)
        · exact ⟨rfl, rfl, rfl, Nat.le_refl _, fun _ _ => rfl⟩
        · have := B5.out.size; have := S4.out; omega
        · simp [dataG]; omega
        · intro v1 w6 h1 h2 h3 h4
          obtain ⟨An, cn, rfl⟩ := own_slice h1
          have e1 : dataG G (k + 1) = dataG G k ++ [x] := by rw [dataG_succ, GX.out.1]
          have el : (dataG G k).length + 1 = (dataG G (k + 1)).length := by rw [e1]; simp
          rw [el, ← e1] at h1
          rw [el]
          have hO6 := Aside0.mk h1
          have hB6 : Aside0 (w6.heap[w2.heap.size]? = some (.cells #[.slice Av s.length cv, .slice Ad (dataG G k).length cd] 24 (0, 0))) := ⟨(h2.block _ (by have := S3.out; omega)).trans hB5.out⟩
          have hW6 : Aside0 (Below w2.heap.size w3 w6) := ⟨(hW.out.trans (B5.out.mono (by have := S3.out; have := S4.out; omega))).trans (h2.mono (by have := S3.out; omega))⟩
          have q1 : w6.cell? ⟨w2.heap.size, 1, none⟩ = some (.slice Ad (dataG G k).length cd) := (blk_cell hB6.out 1).trans rfl
          have q2 := blk_frozen hB6.out 1
          clear h1 h2 h3 h4 e1 el hq1 hq2
          go_wp2_with fail
          go_roundg (N - (k + 1))
          case measure => have := GG.out; omega
          case rel =>
            refine ⟨k + 1, _, by first | rfl | simp, ⟨own_keep hO6.out (fun g hg _ => set_far _ _ _ _ (by have := S3.out; simp; omega))⟩, ⟨blk_put (cs := #[.slice Av s.length cv, .slice Ad (dataG G k).length cd]) hB6.out 1 _ rfl⟩, ⟨hW6.out.setCell (p := ⟨w2.heap.size, 1, none⟩) (Nat.le_refl _) _⟩, ⟨GG.out.2.2, rfl, ?_⟩⟩
            simp only [errG, GG.out.2.1, if_true]
            rw [GX.out.2]; exact HZ.out
      · have d1 : (y != 0) = true := by simpa using hz
        have EE : Aside0 (errG G N = y) := ⟨by
          have h1 : errG G (k + 1) = y := by simp only [errG, GG.out.2.1, if_true]; exact GX.out.2
          rw [errG_stay G (k + 1) (by rw [h1]; exact hz) N GG.out.2.2, h1]⟩
        have HZ := Aside0.mk hz
        clear hz hq1 hq2
        have BW5 : Aside0 (Below w.heap.size w w5) := ⟨BW4.out.trans (B5.out.mono BW4.out.size)⟩
        have BK5 : Aside0 (w5.heap[w.heap.size]? = some (.cells #[.slice none 0 0, .slice none 0 0] 24 (0, 0))) := ⟨by
          have b0 := S1.out; have b1 := B2.out.size; have b3 := S3.out; have b4 := S4.out
          rw [B5.out.block _ (by omega), hW.out.block _ (by omega), B3.out.block _ (by omega)]; exact BK2.out⟩
        have q1 : w5.cell? ⟨w.heap.size, 0, none⟩ = some (.slice none 0 0) := (blk_cell BK5.out 0).trans rfl
        have q2 : w5.cell? ⟨w.heap.size, 1, none⟩ = some (.slice none 0 0) := (blk_cell BK5.out 1).trans rfl
        have q3 := blk_frozen BK5.out 0
        have q4 := blk_frozen BK5.out 1
        go_wp2_with fail
        have F4 : Aside0 (((w5.setCell ⟨w.heap.size, 0, none⟩ (.slice none 0 0)).setCell ⟨w.heap.size, 1, none⟩ (.slice none 0 0)).heap[w.heap.size]? = some (.cells #[.slice none 0 0, .slice none 0 0] 24 (0, 0))) := ⟨blk_put (cs := #[.slice none 0 0, .slice none 0 0]) (blk_put (cs := #[.slice none 0 0, .slice none 0 0]) BK5.out 0 _ rfl) 1 _ rfl⟩
        refine bodyPost_ret (results_ct rfl _ _ w.heap.size 24 #[.slice none 0 0, .slice none 0 0] (0, 0) _ rfl F4.out Try.underlying24 rfl (by kernel_rfl)) rfl ?_
        have en : errG G (sizeS s) ≠ 0 := by rw [← NN.out, EE.out]; exact HZ.out
        refine ⟨.slice none 0 0, .slice none 0 0, ?_, ?_, ?_, (BW5.out.setCell (p := ⟨w.heap.size, 0, none⟩) (Nat.le_refl _) _).setCell (p := ⟨w.heap.size, 1, none⟩) (Nat.le_refl _) _⟩
        · rw [← NN.out, EE.out]; rfl
        · unfold eachS; rw [if_neg en]; exact RdN.nil _ _
        · unfold eachD; rw [if_neg en]; exact RdN.nil _ _
    · obtain rfl : k = N := by omega
      have c1 : decide ((k : Int) < (k : Int)) = false := by simp
      have c2 : decide (k < k) = false := by simp
      have EE := Aside0.mk hek
      clear hk1 hg hek hk hlt
      have BK4 : Aside0 (w4.heap[w.heap.size]? = some (.cells #[.slice none 0 0, .slice none 0 0] 24 (0, 0))) := ⟨by
        have b0 := S1.out; have b1 := B2.out.size; have b3 := S3.out
        rw [hW.out.block _ (by omega), B3.out.block _ (by omega)]; exact BK2.out⟩
      have q1 : w4.cell? ⟨w.heap.size, 0, none⟩ = some (.slice none 0 0) := (blk_cell BK4.out 0).trans rfl
      have q2 : w4.cell? ⟨w.heap.size, 1, none⟩ = some (.slice none 0 0) := (blk_cell BK4.out 1).trans rfl
      have q3 := blk_frozen BK4.out 0
      have q4 := blk_frozen BK4.out 1
      have q5 : w4.cell? ⟨w2.heap.size, 0, none⟩ = some (.slice Av s.length cv) := (blk_cell hB.out 0).trans rfl
      have q6 : w4.cell? ⟨w2.heap.size, 1, none⟩ = some (.slice Ad (dataG G k).length cd) := (blk_cell hB.out 1).trans rfl
      go_wp2_with fail
      have F4 : Aside0 (((w4.setCell ⟨w.heap.size, 0, none⟩ (.slice Av s.length cv)).setCell ⟨w.heap.size, 1, none⟩ (.slice Ad (dataG G k).length cd)).heap[w.heap.size]? = some (.cells #[.slice Av s.length cv, .slice Ad (dataG G k).length cd] 24 (0, 0))) := ⟨blk_put (cs := #[.slice Av s.length cv, .slice none 0 0]) (blk_put (cs := #[.slice none 0 0, .slice none 0 0]) BK4.out 0 _ rfl) 1 _ rfl⟩
      refine bodyPost_ret (results_ct rfl _ _ w.heap.size 24 #[.slice Av s.length cv, .slice Ad (dataG G k).length cd] (0, 0) _ rfl F4.out Try.underlying24 rfl (by kernel_rfl)) rfl ?_
      have en : errG G (sizeS s) = 0 := by rw [← NN.out]; exact EE.out
      have z1 := S1.out; have z2 := B2.out.size; have z3 := S3.out; have z4 := S4.out
      refine ⟨.slice Av s.length cv, .slice Ad (dataG G k).length cd, ?_, ?_, ?_, (BW4.out.setCell (p := ⟨w.heap.size, 0, none⟩) (Nat.le_refl _) _).setCell (p := ⟨w.heap.size, 1, none⟩) (Nat.le_refl _) _⟩
      · rw [← NN.out, EE.out]; rfl
      · unfold eachS; rw [if_pos en]
        intro w9 h9
        refine Rd.of_own (own_keep OW0.out (fun g hg hlt => ?_))
        rw [h9 g (by omega) (by rw [set_size, set_size]; have := hW.out.size; omega), set_far _ _ _ _ (by simp; omega), set_far _ _ _ _ (by simp; omega), hW.out.block _ (by omega), B3.out.block _ (by omega)]
      · unfold eachD; rw [if_pos en, ← NN.out]
        intro w9 h9
        refine Rd.of_own (own_keep hO.out (fun g hg hlt => ?_))
        rw [h9 g (by omega) (by rw [set_size, set_size]; exact hlt), set_far _ _ _ _ (by simp; omega), set_far _ _ _ _ (by simp; omega)]
end Go.Proofs.Ytpnigmcpifilmaa.P
