/- Contract of tensor.Spread. -/
import Derived.Test.YtpnigmcpifilmaaA7
namespace Go.Proofs.Ytpnigmcpifilmaa.P
open Go.RowKit Go.Shelf Go.Proofs.YtpnigmcpifilmaaW.PrintWords Go.Proofs.YtpnigmcpifilmaaW.PrintLast Go.Proofs.YtpnigmcpifilmaaW.PrintMore
set_option linter.unusedVariables false
set_option linter.unusedSimpArgs false
attribute [local go_sem] Oper.semAt_some
set_option maxRecDepth 100000 in
theorem from_any (A0 : Option Addr) (c0 n0 : Nat) (A1 : Option Addr) (c1 n1 : Nat) (w : World) :
    Calls Try.prog 51 #[.slice A0 n0 c0, .slice A1 n1 c1] w fun e w' => e = .returned (.func (.func 98) #[] #[.pointer (some ⟨w.heap.size + 1, 0, none⟩), .pointer (some ⟨w.heap.size, 0, none⟩)]) ∧ w' = (w.alloc (.cells #[.slice A0 n0 c0] 22)).alloc (.cells #[.slice A1 n1 c1] 22) := by
  go_enter Try.func51, Try.ntmps51
  go_wp2_with fail
  go_ret
  exact ⟨rfl, rfl⟩
abbrev fromE (s g : List Int) (x : Fin (sizeS g)) : Array Value := #[.int .i64 ((x.val : Nat) : Int), .int .i64 (fromS s g (x.val : Int))]
def upto (N k : Nat) : List (Fin N) := (List.finRange N).take k
theorem upto_length (N k : Nat) (h : k ≤ N) : (upto N k).length = k := by simp [upto, h]
theorem upto_succ (N k : Nat) (h : k < N) : upto N (k + 1) = upto N k ++ [⟨k, h⟩] := by
  unfold upto
  rw [List.take_succ_eq_append_getElem (by simpa using h)]
  simp
theorem from_stops (n Bg Bs gb : Nat) (hn : 1 ≤ n) (Ag : Option Addr) (cg : Nat) (g : List Int) (As : Option Addr) (cs : Nat) (s : List Int) (hs : shapeOk s = true) (hg : shapeOk g = true) (hl : s.length ≤ g.length) (w : World)
    (hgb : gb < w.heap.size) (hBg : w.cell? ⟨Bg, 0, none⟩ = some (.slice Ag g.length cg)) (hBs : w.cell? ⟨Bs, 0, none⟩ = some (.slice As s.length cs)) (hBg2 : Bg ≠ gb) (hBs2 : Bs ≠ gb)
    (hrg : Kd.C (Kd.int .i64) w Ag g.length g) (hrs : Kd.C (Kd.int .i64) w As s.length s) (hgA : ∀ ad, Ag = some ad → 0 < g.length → ad.block ≠ gb) (hsA : ∀ ad, As = some ad → 0 < s.length → ad.block ≠ gb) :
    SeqStopsK Fence.wide n Try.prog 98 #[.pointer (some ⟨Bg, 0, none⟩), .pointer (some ⟨Bs, 0, none⟩)] (fromE s g) (KpG gb) (fun xs => xs = List.finRange (sizeS g)) (fun _ => True) (sizeS g) w := fun l J Jx W hW hJ hJx hY h0 => by
  refine (from1_in n l Bg Bs gb hn Ag cg g As cs s hs hg hl (fun k W => k ≤ sizeS g ∧ J (upto (sizeS g) k) W) (fun k W => Jx (upto (sizeS g) k) W) W
    (fun k A B row h hgr hrow => ⟨h.1, hJ _ A B row h.2 hgr hrow⟩)
    (fun p W1 hj hp => (hY _ ⟨p, hp⟩ W1 hj.2 (by rw [upto_length _ _ hj.1]; exact hp)).mono fun e W' hh => ?_)
    (Nat.lt_of_lt_of_le hgb hW.size) (pw_cell_below hW hBg) (pw_cell_below hW hBs) hBg2 hBs2 (Kd.C_below hrg hW) (Kd.C_below hrs hW) hgA hsA ⟨Nat.zero_le _, by simpa [upto] using h0⟩).mono ?_
  · rcases hh with ⟨h1, h2, h3⟩ | ⟨h1, h2⟩
    · exact .inl ⟨h1, ⟨hp, by rw [upto_succ _ _ hp]; exact h2⟩, h3⟩
    · exact .inr ⟨h1, by rw [upto_succ _ _ hp]; exact h2⟩
  · rintro e W' ⟨hv, h | ⟨k, hk, hx⟩⟩
    · refine ⟨hv, .inl ⟨_, rfl, ?_⟩⟩
      have := h.2
      rwa [upto, List.take_of_length_le (by simp)] at this
    · exact ⟨hv, .inr ⟨_, trivial, hx⟩⟩
/-- The stretched tensor's numbers. -/
def spreadD (s d g : List Int) : List Int := (List.range (sizeS g)).map fun (p : Nat) => rd d (fromS s g (p : Int))
def fillF (s d g : List Int) (pre : List (Fin (sizeS g))) : List Int := pre.foldl (fun l x => l.set x.val (rd d (fromS s g (x.val : Int)))) (List.replicate (sizeS g) 0)
theorem fillF_snoc (s d g : List Int) (pre : List (Fin (sizeS g))) (x : Fin (sizeS g)) : fillF s d g (pre ++ [x]) = (fillF s d g pre).set x.val (rd d (fromS s g (x.val : Int))) := by simp [fillF]
theorem fillF_upto (s d g : List Int) : ∀ k, k ≤ sizeS g → fillF s d g (upto (sizeS g) k) = ((List.range k).map fun (p : Nat) => rd d (fromS s g (p : Int))) ++ List.replicate (sizeS g - k) 0
  | 0, _ => by simp [upto, fillF]
  | k + 1, h => by
    rw [upto_succ _ _ h, fillF_snoc, fillF_upto s d g k (by omega), List.range_succ, List.map_append]
    rw [List.set_append_right _ _ (by simp)]
    simp only [List.length_map, List.length_range, Nat.sub_self, List.map_cons, List.map_nil, List.append_assoc]
    rw [show sizeS g - k = (sizeS g - (k + 1)) + 1 by omega, List.replicate_succ]
    simp
theorem fillF_all (s d g : List Int) : fillF s d g (List.finRange (sizeS g)) = spreadD s d g := by
  have := fillF_upto s d g (sizeS g) (Nat.le_refl _)
  rw [upto, List.take_of_length_le (by simp)] at this
  simpa [spreadD] using this
theorem C_blk {w : World} {ad : Addr} {n : Nat} {xs : List Int} (h : Kd.C (Kd.int .i64) w (some ad) n xs) (hn : 0 < n) : ad.block < w.heap.size := by
  obtain ⟨ad', e, hx⟩ := (ofC h).2.2 hn
  cases e
  obtain ⟨o, ho, _⟩ := cells_of_cell (hx 0 hn)
  have := (Array.getElem?_eq_some_iff.1 ho).1
  simpa [Addr.add] using this
theorem own_ownFrom {β : Type} (B0 B : Nat) (e : TypeId) (size : Nat) (v : Value) (n : Nat) (f : β → List Value) : OwnFrom B0 (fun pre W => W.ownsRow B e size v n (f pre)) := fun s W W' row h hg hr => by
  refine ⟨h.1, ?_⟩
  rcases h.2 with h2 | ⟨b, cap, cur, h1, h2, h3, h4⟩
  · exact .inl h2
  · exact .inr ⟨b, cap, cur, h1, h2, (grownBy_keeps_cells hg (fun r e => (hr r e).2) h3 rfl).trans h3, h4⟩
theorem kpG_ownFrom {β : Type} (B0 gb : Nat) (w : World) : OwnFrom B0 (fun (_ : β) W => KpG gb w W) := fun s W W' row h hg hr =>
  h.trans ⟨hg.size, fun k o _ ho hc => (grownBy_keeps_cells hg (fun r e => (hr r e).2) ho hc).trans ho⟩
set_option maxRecDepth 100000 in
theorem spread_ok (A0 : Option Addr) (c0 : Nat) (s : List Int) (A1 : Option Addr) (c1 : Nat) (d : List Int) (A2 : Option Addr) (c2 : Nat) (g : List Int) (w : World)
    (hr0 : Kd.C (Kd.int .i64) w A0 s.length s) (hc0 : s.length ≤ c0) (hr1 : Kd.C (Kd.int .i64) w A1 d.length d) (hr2 : Kd.C (Kd.int .i64) w A2 g.length g) (hc2 : g.length ≤ c2)
    (ht : tOk s d = true) (hf : fitsS s g = true) (hfr : fitR s.reverse g.reverse) (hl : s.length ≤ g.length) (hg : shapeOk g = true) :
    Calls Try.prog 19 #[.agg #[.slice A0 s.length c0, .slice A1 d.length c1], .slice A2 g.length c2] w fun e w' => ∃ v0 v1 : Value, e = .returned (.tuple #[.agg #[v0, v1], .int .i64 0]) ∧ Rd w' v0 g ∧ Rd w' v1 (spreadD s d g) ∧ Below w.heap.size w w' := by
  refine (callsIn_wide (n := 9)).1 ?_
  refine callsIn_of_wp_marks Try.func19 rfl trivial ?_ rfl
  simp only [Try.ntmps19, List.size_toArray, List.length_cons, List.length_nil, Nat.reduceAdd, Nat.reduceSub, Array.replicate_succ, Array.replicate_zero, List.push_toArray, List.append_toArray, List.nil_append, List.cons_append]
  have HR := Aside0.mk (And.intro hr0 (And.intro hr1 hr2))
  have HC := Aside0.mk (And.intro hc0 hc2)
  have OK := Aside0.mk (And.intro ht (And.intro hf (And.intro hfr (And.intro hl hg))))
  clear hr0 hr1 hr2 hc0 hc2 ht hf hfr hl hg
  gi_wp2_with fail
  refine ⟨trivial, ?_⟩
  obtain ⟨w1, hw1⟩ : ∃ w1, ((w.alloc (Obj.cells #[.slice A0 s.length c0, .slice A1 d.length c1] 24)).alloc (Obj.cells #[.slice none 0 0, .slice none 0 0] 24)) = w1 := ⟨_, rfl⟩
  have S1 : Aside0 (w1.heap.size = w.heap.size + 2) := ⟨by rw [← hw1]; exact (Array.size_push _).trans (congrArg (· + 1) (Array.size_push _))⟩
  have BT1 : Aside0 (w1.heap[w.heap.size]? = some (.cells #[.slice A0 s.length c0, .slice A1 d.length c1] 24 (0, 0))) := ⟨by rw [← hw1]; exact blk_alloc (blk_new _ _) _⟩
  have BR1 : Aside0 (w1.heap[w.heap.size + 1]? = some (.cells #[.slice none 0 0, .slice none 0 0] 24 (0, 0))) := ⟨by rw [← hw1]; have := blk_new (w.alloc (Obj.cells #[.slice A0 s.length c0, .slice A1 d.length c1] 24)) (Obj.cells #[.slice none 0 0, .slice none 0 0] 24); rwa [World.size_alloc] at this⟩
  have B1 : Aside0 (Below w.heap.size w w1) := ⟨by rw [← hw1]; exact below_alloc (below_alloc (Below.refl _ _) _) _⟩
  rw [hw1]
  clear hw1
  refine (callsIn_wide.2 (tcheck_any A0 c0 s A1 c1 d w1 (Kd.C_below HR.out.1 B1.out))).mono ?_
  rw [OK.out.1]
  rintro e w2 ⟨rfl, hb⟩
  have B2 := Aside0.mk (below_then B1.out B1.out.size hb)
  have BT2 := Aside0.mk (blk_below BT1.out hb)
  have BR2 := Aside0.mk (blk_below BR1.out hb)
  have S2 := Aside0.mk hb.size
  have q1 : w2.cell? ⟨w.heap.size, 0, none⟩ = some (.slice A0 s.length c0) := (blk_cell BT2.out 0).trans rfl
  have q2 : w2.cell? ⟨w.heap.size, 1, none⟩ = some (.slice A1 d.length c1) := (blk_cell BT2.out 1).trans rfl
  clear hb
  gi_wp2_with fail
  refine ⟨trivial, ?_⟩
  refine (callsIn_wide.2 (fits_any A0 c0 s A2 c2 g w2 (Kd.C_below HR.out.1 B2.out) HC.out.1 (Kd.C_below HR.out.2.2 B2.out) HC.out.2)).mono ?_
  rw [OK.out.2.1]
  rintro e w3 ⟨rfl, hb⟩
  have B3 := Aside0.mk (below_then B2.out B2.out.size hb)
  have BT3 := Aside0.mk (blk_below BT2.out hb)
  have BR3 := Aside0.mk (blk_below BR2.out hb)
  have S3 : Aside0 (w.heap.size + 2 ≤ w3.heap.size) := ⟨by have := S1.out; have := S2.out; have := hb.size; omega⟩
  clear hb q1 q2
  gi_wp2_with fail
  refine ⟨trivial, ?_⟩
  refine (callsIn_wide.2 (full_ok A2 c2 g 0 w3 (Kd.C_below HR.out.2.2 B3.out) HC.out.2 OK.out.2.2.2.2)).mono ?_
  rintro e w4 ⟨v0, v1, B, rfl, hB1, hB2, hv0, hv1, hb⟩
  have B4 := Aside0.mk (below_then B3.out B3.out.size hb)
  have BT4 := Aside0.mk (blk_below BT3.out hb)
  have BR4 := Aside0.mk (blk_below BR3.out hb)
  have V0 := Aside0.mk hv0
  have SB := Aside0.mk (And.intro hB1 hB2)
  obtain ⟨Av, cv, rfl, _, _⟩ := hv0 w4 (fun _ _ _ => rfl)
  have gs := shapeOk_bd OK.out.2.2.2.2
  have hN0 : 0 < sizeS g := by omega
  obtain ⟨ad, cw, rfl⟩ : ∃ ad cw, v1 = .slice (some ad) (sizeS g) cw := by
    rcases hv1.2 with ⟨_, h0⟩ | ⟨b, cap, cur, rfl, _⟩
    · omega
    · exact ⟨_, _, rfl⟩
  obtain ⟨gb, rfl⟩ : ∃ gb, ad = ⟨gb, 0, none⟩ := by
    rcases hv1.2 with ⟨h, _⟩ | ⟨b, cap, cur, h, _⟩
    · cases h
    · cases h; exact ⟨b, rfl⟩
  have GB : Aside0 (B ≤ gb ∧ gb < w4.heap.size) := ⟨by
    rcases hv1.2 with ⟨h, _⟩ | ⟨b, cap, cur, h, hb1, hb2, _⟩
    · cases h
    · cases h; exact ⟨hb1, blk_lt hb2⟩⟩
  have V1 := Aside0.mk hv1
  clear hb hv0 hv1 hB1 hB2 gs
  have NZ := Aside0.mk hN0
  clear hN0
  obtain ⟨w5, hw5⟩ : ∃ w5, w4.alloc (Obj.cells #[.slice Av g.length cv, .slice (some ⟨gb, 0, none⟩) (sizeS g) cw] 24) = w5 := ⟨_, rfl⟩
  have q5 : (w4.alloc (Obj.cells #[.slice Av g.length cv, .slice (some ⟨gb, 0, none⟩) (sizeS g) cw] 24)).cell? ⟨w.heap.size, 0, none⟩ = some (.slice A0 s.length c0) := (blk_cell (blk_alloc BT4.out _) 0).trans rfl
  have S5 : Aside0 (w5.heap.size = w4.heap.size + 1) := ⟨by rw [← hw5]; exact Array.size_push _⟩
  have B45 : Aside0 (Below w4.heap.size w4 w5) := ⟨by rw [← hw5]; exact below_alloc (Below.refl _ _) _⟩
  have BO5 : Aside0 (w5.heap[w4.heap.size]? = some (.cells #[.slice Av g.length cv, .slice (some ⟨gb, 0, none⟩) (sizeS g) cw] 24 (0, 0))) := ⟨by rw [← hw5]; exact blk_new _ _⟩
  have W5 := Aside0.mk hw5
  clear hw5
  gi_wp2_with fail
  rw [W5.out]
  clear q5
  refine ⟨trivial, ?_⟩
  refine (callsIn_wide.2 (from_any A0 c0 s.length A2 c2 g.length w5)).mono ?_
  rintro e w6 ⟨rfl, hw6⟩
  have S6 : Aside0 (w6.heap.size = w5.heap.size + 2) := ⟨by rw [hw6]; exact (Array.size_push _).trans (congrArg (· + 1) (Array.size_push _))⟩
  have B56 : Aside0 (Below w5.heap.size w5 w6) := ⟨by rw [hw6]; exact below_alloc (below_alloc (Below.refl _ _) _) _⟩
  have XS : Aside0 (w6.heap[w5.heap.size]? = some (.cells #[.slice A0 s.length c0] 22 (0, 0))) := ⟨by rw [hw6]; exact blk_alloc (blk_new _ _) _⟩
  have XG : Aside0 (w6.heap[w5.heap.size + 1]? = some (.cells #[.slice A2 g.length c2] 22 (0, 0))) := ⟨by rw [hw6]; have := blk_new (w5.alloc (Obj.cells #[.slice A0 s.length c0] 22)) (Obj.cells #[.slice A2 g.length c2] 22); rwa [World.size_alloc] at this⟩
  clear hw6 W5
  have B46 : Aside0 (Below w4.heap.size w4 w6) := ⟨below_then B45.out B45.out.size B56.out⟩
  have B6 : Aside0 (Below w.heap.size w w6) := ⟨below_then B4.out B4.out.size B46.out⟩
  have BT6 := Aside0.mk (blk_below BT4.out B46.out)
  have BR6 := Aside0.mk (blk_below BR4.out B46.out)
  have BO6 := Aside0.mk (blk_below BO5.out B56.out)
  have V1' : Aside0 (w6.ownsRow B 3 1 (.slice (some ⟨gb, 0, none⟩) (sizeS g) cw) (sizeS g) (nums .i64 (List.replicate (sizeS g) 0))) := ⟨own_keep V1.out (fun k _ hk => B46.out.block k hk)⟩
  have V0' : Aside0 (∀ w2, (∀ k, w3.heap.size ≤ k → k < B → w2.heap[k]? = w6.heap[k]?) → Rd w2 (.slice Av g.length cv) g) := ⟨fun w2 h => V0.out w2 (fun k h1 h2 => (h k h1 h2).trans (B46.out.block k (by have := SB.out.2; omega)))⟩
  gi_wp2_with fail
  have tok := OK.out.1
  simp only [tOk, Bool.and_eq_true, decide_eq_true_eq] at tok
  have TK := Aside0.mk tok
  clear tok
  have hBw6 : B ≤ w6.heap.size := by have := SB.out.2; have := B46.out.size; omega
  refine wpIn_rangeFunc_ownF (n := 9) rfl (by omega) (gf := 98) (lb := #[.pointer (some ⟨w5.heap.size + 1, 0, none⟩), .pointer (some ⟨w5.heap.size, 0, none⟩)]) rfl trivial (enters_of Try.func98 (by kernel_rfl) rfl)
    (from_stops 8 (w5.heap.size + 1) w5.heap.size gb (by omega) A2 c2 g A0 c0 s TK.out.1 OK.out.2.2.2.2 OK.out.2.2.2.1 w6 (by have := GB.out.2; have := B46.out.size; omega) ((blk_cell XG.out 0).trans rfl) ((blk_cell XS.out 0).trans rfl) (by have := GB.out.2; have := S5.out; omega) (by have := GB.out.2; have := S5.out; omega)
      (Kd.C_below HR.out.2.2 B6.out) (Kd.C_below HR.out.1 B6.out) (fun ad e h => ?_) (fun ad e h => ?_))
    (fun h k => h.trans k) (fun W l o o' _ h ho _ => KpG.put W l o o' h ho) (Below.refl _ _) (fun _ => rfl)
    (fun pre W => W.ownsRow B 3 1 (.slice (some ⟨gb, 0, none⟩) (sizeS g) cw) (sizeS g) (nums .i64 (fillF s d g pre)) ∧ KpG gb w6 W ∧ Below B w6 W) (fun _ _ _ => False)
    (OwnFrom.and (own_ownFrom _ _ _ _ _ _ _) (OwnFrom.and (kpG_ownFrom _ _ _) (ownFrom_below hBw6 hBw6))) (fun _ _ _ _ _ h _ _ => h.elim)
    ⟨V1'.out, KpG.refl _ _, Below.refl _ _⟩
    (fun x => { tmps := #[.agg #[.slice A0 s.length c0, .slice A1 d.length c1], .slice A2 g.length c2, .pointer (some ⟨w.heap.size, 0, none⟩), undef, .pointer (some ⟨w.heap.size + 1, 0, none⟩), .int .i64 0, .pointer (some ⟨w4.heap.size, 0, none⟩), .int .i64 0, .int .i64 ((x.val : Nat) : Int), .int .i64 (fromS s g (x.val : Int)), .bool false, .agg #[.slice A0 s.length c0, .slice A1 d.length c1], .bool true, .bool false, undef, .bool false, .pointer (some ⟨w.heap.size, 0, none⟩), .slice A0 s.length c0, .slice A2 g.length c2, .bool true, .bool false, undef, .tuple #[.agg #[.slice Av g.length cv, .slice (some ⟨gb, 0, none⟩) (sizeS g) cw], .int .i64 0], .slice A2 g.length c2, .tuple #[.agg #[.slice Av g.length cv, .slice (some ⟨gb, 0, none⟩) (sizeS g) cw], .int .i64 0], .agg #[.slice Av g.length cv, .slice (some ⟨gb, 0, none⟩) (sizeS g) cw], .int .i64 0, .pointer (some ⟨w.heap.size, 0, none⟩), .slice A0 s.length c0, .slice A2 g.length c2, .func (.func 98) #[] #[.pointer (some ⟨w5.heap.size + 1, 0, none⟩), .pointer (some ⟨w5.heap.size, 0, none⟩)], .int .i64 ((x.val : Nat) : Int), .int .i64 (fromS s g (x.val : Int)), undef, undef, undef, undef, undef, undef, undef, undef, undef, undef], defers := [] }) ?assign ?body ?done ?stop
  case assign =>
    intro l x W K hK
    gi_wp2
    exact hK
  case body =>
    rintro l pre x W ⟨hown, hk, hb⟩ hlen
    have q1 : W.cell? ⟨w.heap.size, 1, none⟩ = some (.slice A1 d.length c1) := hk.cell ((blk_cell BT6.out 1).trans rfl) (by have := GB.out.1; have := SB.out.1; have := S3.out; simp; omega)
    have q2 : W.cell? ⟨w4.heap.size, 1, none⟩ = some (.slice (some ⟨gb, 0, none⟩) (sizeS g) cw) := hk.cell ((blk_cell BO6.out 1).trans rfl) (by have := GB.out.2; simp; omega)
    have fl := fromS_lt s g (x.val : Int) OK.out.2.2.1 TK.out.1 OK.out.2.2.2.2 (by omega)
    obtain ⟨x, hx⟩ := x
    dsimp only at fl ⊢
    obtain ⟨f, hf⟩ : ∃ f, fromS s g (x : Int) = f := ⟨_, rfl⟩
    obtain ⟨ad1, rfl, hv⟩ := Kd.at_int (Kd.C_below HR.out.2.1 (B6.out.trans (hb.mono (by have := SB.out.1; have := S3.out; omega)))) (fromS s g (x : Int)) fl.1 (by have := TK.out.2; omega)
    rw [hf] at fl hv ⊢
    obtain ⟨f, rfl⟩ := Int.eq_ofNat_of_zero_le fl.1
    have fl2 : f < d.length := by have := TK.out.2; omega
    simp only [Int.toNat_natCast] at hv
    have hcell := own_at hown (x : Int) (by omega) (by omega)
    have hst := own_store hown (x : Int) (rd d f)
    simp only [Int.toNat_natCast] at hcell hst
    obtain ⟨hc1, hc2⟩ := hcell
    obtain ⟨y, hy⟩ : ∃ y, rd d f = y := ⟨_, rfl⟩
    rw [hy] at hv hst
    have FIN : Aside0 ((W.setCell ⟨gb, x, none⟩ (.int .i64 y)).ownsRow B 3 1 (.slice (some ⟨gb, 0, none⟩) (sizeS g) cw) (sizeS g) (nums .i64 (fillF s d g (pre ++ [⟨x, hx⟩])))) := ⟨by
      rw [fillF_snoc, hf, hy]; exact hst.1⟩
    have FKp : Aside0 (KpG gb W (W.setCell ⟨gb, x, none⟩ (.int .i64 y))) := ⟨⟨by simp [World.setCell], fun k o hk ho _ => (set_far W _ _ k hk).trans ho⟩⟩
    have FBl : Aside0 (Below B w6 (W.setCell ⟨gb, x, none⟩ (.int .i64 y))) := ⟨hb.setCell (p := ⟨gb, x, none⟩) GB.out.1 _⟩
    have HK := Aside0.mk hk
    clear fl hf hy hst hown hk hb
    have hmix : Try.prog.follows .mixedOrders = true := by kernel_rfl
    gi_wp2
    refine region_still_round 8 (by rintro ⟨a, w, h⟩; exact h) hmix (by kernel_rfl) (by kernel_rfl) ?_
    change wpStill _ _ (World.drew W) (fun a' => wpList _ _ _ _ a' (World.drew W)) _ _
    simp only [List.take_succ_cons, List.take_zero, List.drop_succ_cons, List.drop_zero]
    repeat still_step
    refine wpStill_nil ?_
    go_wp2_with fail
    exact ⟨(KeepsOthers.setCell _ _ _).trans (KeepsOthers.drew _), ⟨FKp.out.size, FKp.out.same⟩, own_drew FIN.out, HK.out.trans ⟨FKp.out.size, FKp.out.same⟩, FBl.out.drew⟩
  case done =>
    rintro D xs W hD rfl ⟨hown, hk, hb⟩ hK
    have BO := Aside0.mk (hk.same _ _ (by have := GB.out.2; omega) BO6.out rfl)
    have BR := Aside0.mk (hk.same _ _ (by have := GB.out.1; have := SB.out.1; have := S3.out; omega) BR6.out rfl)
    have q1 : W.cell? ⟨w4.heap.size, 0, none⟩ = some (.slice Av g.length cv) := (blk_cell BO.out 0).trans rfl
    have q2 : W.cell? ⟨w4.heap.size, 1, none⟩ = some (.slice (some ⟨gb, 0, none⟩) (sizeS g) cw) := (blk_cell BO.out 1).trans rfl
    have q3 : W.cell? ⟨w.heap.size + 1, 0, none⟩ = some (.slice none 0 0) := (blk_cell BR.out 0).trans rfl
    have q4 : W.cell? ⟨w.heap.size + 1, 1, none⟩ = some (.slice none 0 0) := (blk_cell BR.out 1).trans rfl
    have q5 := blk_frozen BR.out 0
    have q6 := blk_frozen BR.out 1
    have HW := Aside0.mk (And.intro hown (And.intro hk (And.intro hb hK)))
    clear hown hk hb hK
    gi_wp2
    obtain ⟨Wf, hWf⟩ : ∃ Wf, ((W.setCell ⟨w.heap.size + 1, 0, none⟩ (.slice Av g.length cv)).setCell ⟨w.heap.size + 1, 1, none⟩ (.slice (some ⟨gb, 0, none⟩) (sizeS g) cw)) = Wf := ⟨_, rfl⟩
    have F1 : Wf.heap[w.heap.size + 1]? = some (.cells #[.slice Av g.length cv, .slice (some ⟨gb, 0, none⟩) (sizeS g) cw] 24 (0, 0)) := by
      rw [← hWf]; exact blk_put (cs := #[.slice Av g.length cv, .slice none 0 0]) (blk_put (cs := #[.slice none 0 0, .slice none 0 0]) BR.out 0 _ rfl) 1 _ rfl
    have F2 : ∀ k, k ≠ w.heap.size + 1 → Wf.heap[k]? = W.heap[k]? := fun k hk => by rw [← hWf, set_far _ _ _ _ hk, set_far _ _ _ _ hk]
    have F3 : Below w.heap.size w Wf := by
      rw [← hWf]
      have b0 := B6.out.trans (HW.out.2.2.1.mono (by have := SB.out.1; have := S3.out; omega))
      exact (b0.setCell (p := ⟨w.heap.size + 1, 0, none⟩) (by simp) _).setCell (p := ⟨w.heap.size + 1, 1, none⟩) (by simp) _
    rw [hWf]
    clear hWf
    have hD0 : D ≠ w.heap.size + 1 := by have := SB.out.1; have := S3.out; omega
    have hK : Wf.heap[D]? = some (.deferred (some [])) := (F2 D hD0).trans HW.out.2.2.2
    have hDg : D ≠ gb := by
      intro e
      subst e
      rcases HW.out.1.2 with ⟨h, _⟩ | ⟨b, cap, cur, h, _, h3, _⟩
      · cases h
      · cases h
        have := h3.symm.trans HW.out.2.2.2
        cases this
    have HWo := HW.out.1
    have G1 : ∀ k, k ≠ D → (Wf.putObj D (.deferred none)).heap[k]? = Wf.heap[k]? := fun k hk => World.putObj_heap_other hk
    have sb := SB.out
    have s3 := S3.out
    have gb1 := GB.out
    have b46 := B46.out.size
    refine ⟨by simp, .inl ⟨_, _, rfl, run_takeDeferred hK, ?_⟩⟩
    refine ⟨_, results_ct rfl _ _ (w.heap.size + 1) 24 #[.slice Av g.length cv, .slice (some ⟨gb, 0, none⟩) (sizeS g) cw] (0, 0) _ rfl ((G1 _ (by omega)).trans F1) Try.underlying24 rfl (by kernel_rfl), _, _, rfl, ?_, ?_, ?_⟩
    · refine V0'.out _ (fun k h1 h2 => ?_)
      rw [G1 k (by omega), F2 k (by omega)]
      exact HW.out.2.2.1.block k h2
    · have hl2 : (spreadD s d g).length = sizeS g := by simp [spreadD]
      rw [fillF_all] at HWo
      rw [show sizeS g = (spreadD s d g).length from hl2.symm] at HWo ⊢
      refine Rd.of_own (base := B) ⟨HWo.1, ?_⟩
      rcases HWo.2 with ⟨h, _⟩ | ⟨b, cap, cur, h, h2, h3, h4⟩
      · cases h
      · cases h
        exact .inr ⟨gb, _, cur, rfl, h2, by rw [G1 _ (Ne.symm hDg), F2 _ (by omega)]; exact h3, h4⟩
    · exact F3.trans ((Below.refl _ _).grown (grownBy_putObj' Wf D (.deferred none)) F3.size (fun k e => by cases e; omega))
  case stop =>
    rintro D c pre W _ _ h _
    exact h.elim
  · subst e
    have := C_blk HR.out.2.2 h
    have := SB.out.1; have := S3.out; have := GB.out.1
    omega
  · subst e
    have := C_blk HR.out.1 h
    have := SB.out.1; have := S3.out; have := GB.out.1
    omega
set_option maxRecDepth 100000 in
theorem spread_unfit (A0 : Option Addr) (c0 : Nat) (s : List Int) (A1 : Option Addr) (c1 : Nat) (d : List Int) (A2 : Option Addr) (c2 : Nat) (g : List Int) (w : World)
    (hr0 : Kd.C (Kd.int .i64) w A0 s.length s) (hc0 : s.length ≤ c0) (hr2 : Kd.C (Kd.int .i64) w A2 g.length g) (hc2 : g.length ≤ c2)
    (ht : tOk s d = true) (hf : fitsS s g = false) :
    Calls Try.prog 19 #[.agg #[.slice A0 s.length c0, .slice A1 d.length c1], .slice A2 g.length c2] w fun e w' => e = .returned (.tuple #[.agg #[.slice none 0 0, .slice none 0 0], .int .i64 20]) ∧ Below w.heap.size w w' := by
  have HR := Aside0.mk (And.intro hr0 hr2)
  have HC := Aside0.mk (And.intro hc0 hc2)
  have HF := Aside0.mk hf
  clear hf
  clear hr0 hr2 hc0 hc2
  go_enter Try.func19, Try.ntmps19
  go_wp2_with fail
  obtain ⟨w1, hw1⟩ : ∃ w1, ((w.alloc (Obj.cells #[.slice A0 s.length c0, .slice A1 d.length c1] 24)).alloc (Obj.cells #[.slice none 0 0, .slice none 0 0] 24)) = w1 := ⟨_, rfl⟩
  have BT1 : Aside0 (w1.heap[w.heap.size]? = some (.cells #[.slice A0 s.length c0, .slice A1 d.length c1] 24 (0, 0))) := ⟨by rw [← hw1]; exact blk_alloc (blk_new _ _) _⟩
  have BR1 : Aside0 (w1.heap[w.heap.size + 1]? = some (.cells #[.slice none 0 0, .slice none 0 0] 24 (0, 0))) := ⟨by rw [← hw1]; have := blk_new (w.alloc (Obj.cells #[.slice A0 s.length c0, .slice A1 d.length c1] 24)) (Obj.cells #[.slice none 0 0, .slice none 0 0] 24); rwa [World.size_alloc] at this⟩
  have B1 : Aside0 (Below w.heap.size w w1) := ⟨by rw [← hw1]; exact below_alloc (below_alloc (Below.refl _ _) _) _⟩
  rw [hw1]
  clear hw1
  refine (tcheck_any A0 c0 s A1 c1 d w1 (Kd.C_below HR.out.1 B1.out)).mono ?_
  rw [ht]
  clear ht
  rintro e w2 ⟨rfl, hb⟩
  have B2 := Aside0.mk (below_then B1.out B1.out.size hb)
  have BT2 := Aside0.mk (blk_below BT1.out hb)
  have BR2 := Aside0.mk (blk_below BR1.out hb)
  have q1 : w2.cell? ⟨w.heap.size, 0, none⟩ = some (.slice A0 s.length c0) := (blk_cell BT2.out 0).trans rfl
  have q2 : w2.cell? ⟨w.heap.size, 1, none⟩ = some (.slice A1 d.length c1) := (blk_cell BT2.out 1).trans rfl
  clear hb
  go_wp2_with fail
  refine (fits_any A0 c0 s A2 c2 g w2 (Kd.C_below HR.out.1 B2.out) HC.out.1 (Kd.C_below HR.out.2 B2.out) HC.out.2).mono ?_
  rw [HF.out]
  rintro e w3 ⟨rfl, hb⟩
  have B3 := Aside0.mk (below_then B2.out B2.out.size hb)
  have BR3 := Aside0.mk (blk_below BR2.out hb)
  clear hb q1 q2
  have q3 : w3.cell? ⟨w.heap.size + 1, 0, none⟩ = some (.slice none 0 0) := (blk_cell BR3.out 0).trans rfl
  have q4 : w3.cell? ⟨w.heap.size + 1, 1, none⟩ = some (.slice none 0 0) := (blk_cell BR3.out 1).trans rfl
  have q5 := blk_frozen BR3.out 0
  have q6 := blk_frozen BR3.out 1
  go_wp2_with fail
  have F4 : Aside0 (((w3.setCell ⟨w.heap.size + 1, 0, none⟩ (.slice none 0 0)).setCell ⟨w.heap.size + 1, 1, none⟩ (.slice none 0 0)).heap[w.heap.size + 1]? = some (.cells #[.slice none 0 0, .slice none 0 0] 24 (0, 0))) := ⟨blk_put (cs := #[.slice none 0 0, .slice none 0 0]) (blk_put (cs := #[.slice none 0 0, .slice none 0 0]) BR3.out 0 _ rfl) 1 _ rfl⟩
  refine bodyPost_ret (results_ct rfl _ _ (w.heap.size + 1) 24 #[.slice none 0 0, .slice none 0 0] (0, 0) _ rfl F4.out Try.underlying24 rfl (by kernel_rfl)) rfl ?_
  exact ⟨rfl, (B3.out.setCell (p := ⟨w.heap.size + 1, 0, none⟩) (by simp) _).setCell (p := ⟨w.heap.size + 1, 1, none⟩) (by simp) _⟩
set_option maxRecDepth 100000 in
theorem spread_untrue (A0 : Option Addr) (c0 : Nat) (s : List Int) (A1 : Option Addr) (c1 : Nat) (d : List Int) (A2 : Option Addr) (c2 : Nat) (g : List Int) (w : World)
    (hr0 : Kd.C (Kd.int .i64) w A0 s.length s) (hc0 : s.length ≤ c0) (hr2 : Kd.C (Kd.int .i64) w A2 g.length g) (hc2 : g.length ≤ c2)
    (ht : tOk s d = false) :
    Calls Try.prog 19 #[.agg #[.slice A0 s.length c0, .slice A1 d.length c1], .slice A2 g.length c2] w fun e w' => e = .returned (.tuple #[.agg #[.slice none 0 0, .slice none 0 0], .int .i64 30]) ∧ Below w.heap.size w w' := by
  have HR := Aside0.mk (And.intro hr0 hr2)
  have HC := Aside0.mk (And.intro hc0 hc2)
  clear hr0 hr2 hc0 hc2
  go_enter Try.func19, Try.ntmps19
  go_wp2_with fail
  obtain ⟨w1, hw1⟩ : ∃ w1, ((w.alloc (Obj.cells #[.slice A0 s.length c0, .slice A1 d.length c1] 24)).alloc (Obj.cells #[.slice none 0 0, .slice none 0 0] 24)) = w1 := ⟨_, rfl⟩
  have BT1 : Aside0 (w1.heap[w.heap.size]? = some (.cells #[.slice A0 s.length c0, .slice A1 d.length c1] 24 (0, 0))) := ⟨by rw [← hw1]; exact blk_alloc (blk_new _ _) _⟩
  have BR1 : Aside0 (w1.heap[w.heap.size + 1]? = some (.cells #[.slice none 0 0, .slice none 0 0] 24 (0, 0))) := ⟨by rw [← hw1]; have := blk_new (w.alloc (Obj.cells #[.slice A0 s.length c0, .slice A1 d.length c1] 24)) (Obj.cells #[.slice none 0 0, .slice none 0 0] 24); rwa [World.size_alloc] at this⟩
  have B1 : Aside0 (Below w.heap.size w w1) := ⟨by rw [← hw1]; exact below_alloc (below_alloc (Below.refl _ _) _) _⟩
  rw [hw1]
  clear hw1
  refine (tcheck_any A0 c0 s A1 c1 d w1 (Kd.C_below HR.out.1 B1.out)).mono ?_
  rw [ht]
  clear ht
  rintro e w2 ⟨rfl, hb⟩
  have B2 := Aside0.mk (below_then B1.out B1.out.size hb)
  have BT2 := Aside0.mk (blk_below BT1.out hb)
  have BR2 := Aside0.mk (blk_below BR1.out hb)
  clear hb
  have q3 : w2.cell? ⟨w.heap.size + 1, 0, none⟩ = some (.slice none 0 0) := (blk_cell BR2.out 0).trans rfl
  have q4 : w2.cell? ⟨w.heap.size + 1, 1, none⟩ = some (.slice none 0 0) := (blk_cell BR2.out 1).trans rfl
  have q5 := blk_frozen BR2.out 0
  have q6 := blk_frozen BR2.out 1
  go_wp2_with fail
  have F4 : Aside0 (((w2.setCell ⟨w.heap.size + 1, 0, none⟩ (.slice none 0 0)).setCell ⟨w.heap.size + 1, 1, none⟩ (.slice none 0 0)).heap[w.heap.size + 1]? = some (.cells #[.slice none 0 0, .slice none 0 0] 24 (0, 0))) := ⟨blk_put (cs := #[.slice none 0 0, .slice none 0 0]) (blk_put (cs := #[.slice none 0 0, .slice none 0 0]) BR2.out 0 _ rfl) 1 _ rfl⟩
  refine bodyPost_ret (results_ct rfl _ _ (w.heap.size + 1) 24 #[.slice none 0 0, .slice none 0 0] (0, 0) _ rfl F4.out Try.underlying24 rfl (by kernel_rfl)) rfl ?_
  exact ⟨rfl, (B2.out.setCell (p := ⟨w.heap.size + 1, 0, none⟩) (by simp) _).setCell (p := ⟨w.heap.size + 1, 1, none⟩) (by simp) _⟩
end Go.Proofs.Ytpnigmcpifilmaa.P
