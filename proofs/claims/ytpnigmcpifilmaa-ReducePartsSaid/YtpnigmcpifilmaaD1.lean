/- Words of the walks: what was kept from a world on but for some boxes; ends of functions. -/
import Derived.Test.YtpnigmcpifilmaaD0
import Derived.Test.YtpnigmcpifilmaaB7
import Derived.Test.YtpnigmcpifilmaaA18
namespace Go.Proofs.Ytpnigmcpifilmaa.P
open Go.RowKit Go.Shelf Go.Proofs.YtpnigmcpifilmaaW.PrintWords Go.Proofs.YtpnigmcpifilmaaW.PrintLast Go.Proofs.YtpnigmcpifilmaaW.PrintMore
set_option linter.unusedVariables false
set_option linter.unusedSimpArgs false
theorem size_fold (x : World) : ∀ (os : List Obj), (os.foldl World.alloc x).heap.size = x.heap.size + os.length := by
  intro os
  induction os generalizing x with
  | nil => rfl
  | cons o os ih => simp only [List.foldl_cons, ih, World.size_alloc, List.length_cons]; omega
/-- What was there at X is kept at W but for the boxes in G. -/
def Kp (G : List Nat) (X W : World) : Prop := X.heap.size ≤ W.heap.size ∧ ∀ k, k < X.heap.size → k ∉ G → W.heap[k]? = X.heap[k]?
theorem Kp.refl (G : List Nat) (X : World) : Kp G X X := ⟨Nat.le_refl _, fun _ _ _ => rfl⟩
theorem Kp.below {G : List Nat} {X W V : World} (h : Kp G X W) (hb : Below W.heap.size W V) : Kp G X V :=
  ⟨Nat.le_trans h.1 hb.size, fun k hk hg => (hb.block k (Nat.lt_of_lt_of_le hk h.1)).trans (h.2 k hk hg)⟩
theorem Kp.set {G : List Nat} {X W : World} (h : Kp G X W) {g : Nat} (hg : g ∈ G) (i : Nat) (v : Value) : Kp G X (W.setCell ⟨g, i, none⟩ v) :=
  ⟨by rw [set_size]; exact h.1, fun k hk hG => by rw [set_far _ _ _ _ (fun e => hG (by rw [e]; exact hg)), h.2 k hk hG]⟩
/-- A store beyond what was there. -/
theorem Kp.far {G : List Nat} {X W : World} (h : Kp G X W) {g : Nat} (hg : X.heap.size ≤ g) (i : Nat) (v : Value) : Kp G X (W.setCell ⟨g, i, none⟩ v) :=
  ⟨by rw [set_size]; exact h.1, fun k hk hG => by rw [set_far _ _ _ _ (fun e => by simp only at e; omega), h.2 k hk hG]⟩
theorem Kp.blk {G : List Nat} {X W : World} (h : Kp G X W) {g : Nat} {o : Obj} (ho : X.heap[g]? = some o) (hg : g ∉ G) : W.heap[g]? = some o := (h.2 g (blk_lt ho) hg).trans ho
theorem RdN.keep {m : Nat} {G : List Nat} {X W : World} {v : Value} {l : List Int} (h : RdN m X v l) (hk : Kp G X W) (hG : ∀ g, g ∈ G → g < m) : RdN m W v l :=
  fun w2 h2 => h w2 (fun k k1 k2 => by rw [h2 k k1 (Nat.lt_of_lt_of_le k2 hk.1), hk.2 k k2 (fun e => by have := hG k e; omega)])
theorem RdN.lower {m m' : Nat} {W : World} {v : Value} {l : List Int} (h : RdN m W v l) (hm : m' ≤ m) : RdN m' W v l :=
  fun w2 h2 => h w2 (fun k k1 k2 => h2 k (by omega) k2)
theorem RdN.of_R {w w' : World} {v : Value} {l : List Int} (h : Kd.R (Kd.int .i64) 3 w' w.heap.size (fun _ => True) v l) : RdN w.heap.size w' v l :=
  fun w2 h2 => Rd.of_R (own_keep (ofR h) (fun g hg hlt => h2 g hg hlt) |> fun h3 => toR h3 (fun _ _ => trivial))
theorem RdN.of_ownsRow {B : Nat} {w : World} {v : Value} {l : List Int} (h : w.ownsRow B 3 1 v l.length (nums .i64 l)) : RdN B w v l :=
  fun w2 h2 => Rd.of_own (own_keep h (fun g hg hlt => h2 g hg hlt))
theorem end_val2 {fn : Func} {p u : Tmp} (h : fn.results = #[.cell p 24, .tmp u]) (tmps : Array Value) (w W : World) (g : Nat) (r : TR) (v0 v1 : Value) (hp : tmps.getD p undef = .pointer (some ⟨g, 0, none⟩)) (hu : tmps.getD u undef = .int .i64 r.2)
    (hB : Below w.heap.size w W) (hg : w.heap.size ≤ g) (hk : W.heap[g]? = some (.cells #[.slice none 0 0, .slice none 0 0] 24 (0, 0))) (m0 m1 : Nat) (hm : g < m0) (hm1 : g < m1) (h0 : RdN m0 W v0 r.1.1) (h1 : RdN m1 W v1 r.1.2) :
    bodyPost Try.prog fn (TPost w r) Exit.ret { tmps := tmps, defers := [] } ((W.setCell ⟨g, 0, none⟩ v0).setCell ⟨g, 1, none⟩ v1) :=
  end_val h tmps w W g r v0 v1 hp hu hB hg hk (min m0 m1) (by omega) (by omega) (h0.lower (by omega)) (h1.lower (by omega))
theorem C_take {w : World} {A : Option Addr} {s : List Int} (h : Kd.C (Kd.int .i64) w A s.length s) (k : Nat) (hk : k ≤ s.length) : Kd.C (Kd.int .i64) w A (s.take k).length (s.take k) := by
  have h' := ofC h
  refine toC ⟨rfl, by have := h'.2.1; simp; omega, fun hn => ?_⟩
  have hl : (s.take k).length = k := by simp; omega
  obtain ⟨x, hx, hc⟩ := h'.2.2 (by simp at hn; omega)
  refine ⟨x, hx, fun j hj => ?_⟩
  rw [hc j (by simp at hj; omega)]
  have : j < k := by simp at hj; omega
  simp [List.getD_eq_getElem?_getD, List.getElem?_take, this]
theorem C_drop {w : World} {x : Addr} {s : List Int} (h : Kd.C (Kd.int .i64) w (some x) s.length s) (k : Nat) (hk : k ≤ s.length) : Kd.C (Kd.int .i64) w (some (x.add k)) (s.drop k).length (s.drop k) := by
  have h' := ofC h
  refine toC ⟨rfl, by have := h'.2.1; simp; omega, fun hn => ?_⟩
  obtain ⟨y, hy, hc⟩ := h'.2.2 (by simp at hn; omega)
  cases hy
  refine ⟨_, rfl, fun j hj => ?_⟩
  have hj' : k + j < s.length := by simp at hj; omega
  rw [Addr.add_add, hc (k + j) hj']
  simp [List.getD_eq_getElem?_getD, List.getElem?_drop]
theorem C_none {w : World} {A : Option Addr} {s : List Int} (hs : s = []) : Kd.C (Kd.int .i64) w A s.length s := by
  subst hs; exact toC ⟨rfl, by simp, fun h => absurd h (Nat.lt_irrefl 0)⟩
theorem set_cells3 {W : World} {g : Nat} {t : TypeId} {a b c x y z : Value} (h : W.heap[g]? = some (.cells #[a, b, c] t (0, 0))) : (((W.setCell ⟨g, 0, none⟩ x).setCell ⟨g, 1, none⟩ y).setCell ⟨g, 2, none⟩ z).heap[g]? = some (.cells #[x, y, z] t (0, 0)) :=
  blk_put (cs := #[x, y, c]) (blk_put (cs := #[x, b, c]) (blk_put (cs := #[a, b, c]) h 0 _ rfl) 1 _ rfl) 2 _ rfl
theorem set_cells2 {W : World} {g : Nat} {t : TypeId} {a b x y : Value} (h : W.heap[g]? = some (.cells #[a, b] t (0, 0))) : ((W.setCell ⟨g, 0, none⟩ x).setCell ⟨g, 1, none⟩ y).heap[g]? = some (.cells #[x, y] t (0, 0)) :=
  blk_put (cs := #[x, b]) (blk_put (cs := #[a, b]) h 0 _ rfl) 1 _ rfl
theorem end_lane {fn : Func} {p u : Tmp} (h : fn.results = #[.cell p 91, .tmp u]) (tmps : Array Value) (w W : World) (g : Nat) (x y z x0 y0 z0 er : Value) (hp : tmps.getD p undef = .pointer (some ⟨g, 0, none⟩)) (hu : tmps.getD u undef = er)
    (hB : Below w.heap.size w W) (hg : w.heap.size ≤ g) (hk : W.heap[g]? = some (.cells #[x0, y0, z0] 91 (0, 0))) :
    bodyPost Try.prog fn (fun e w' => e = .returned (.tuple #[.agg #[x, y, z], er]) ∧ Below w.heap.size w w') Exit.ret { tmps := tmps, defers := [] } (((W.setCell ⟨g, 0, none⟩ x).setCell ⟨g, 1, none⟩ y).setCell ⟨g, 2, none⟩ z) := by
  refine bodyPost_ret (results_ct h _ _ g 91 #[x, y, z] (0, 0) _ hp (set_cells3 hk) Try.underlying91 rfl (by kernel_rfl)) rfl ?_
  exact ⟨by rw [hu], ((hB.setCell (p := ⟨g, 0, none⟩) hg _).setCell (p := ⟨g, 1, none⟩) hg _).setCell (p := ⟨g, 2, none⟩) hg _⟩
theorem end_lane_d {fn : Func} {p u : Tmp} (h : fn.results = #[.cell p 91, .tmp u]) (tmps : Array Value) (w W : World) (g : Nat) (x y z x0 y0 z0 er : Value) (hp : tmps.getD p undef = .pointer (some ⟨g, 0, none⟩)) (hu : tmps.getD u undef = er)
    (hB : Below w.heap.size w W) (hg : w.heap.size ≤ g) (hk : W.heap[g]? = some (.cells #[x0, y0, z0] 91 (0, 0))) :
    bodyPost Try.prog fn (fun e w' => e = .returned (.tuple #[.agg #[x, y, z], er]) ∧ Below w.heap.size w w') Exit.ret { tmps := tmps, defers := [] } (((W.setCell ⟨g, 0, none⟩ x).setCell ⟨g, 1, none⟩ y).setCell ⟨g, 2, none⟩ z).drew := by
  refine bodyPost_ret (results_ct h _ _ g 91 #[x, y, z] (0, 0) _ hp (set_cells3 hk) Try.underlying91 rfl (by kernel_rfl)) rfl ?_
  exact ⟨by rw [hu], (((hB.setCell (p := ⟨g, 0, none⟩) hg _).setCell (p := ⟨g, 1, none⟩) hg _).setCell (p := ⟨g, 2, none⟩) hg _).drew⟩
theorem Kp.trans {G G2 : List Nat} {X W V : World} (h : Kp G X W) (h2 : Kp G2 W V) (hG : ∀ g, g ∈ G2 → g ∈ G ∨ X.heap.size ≤ g) : Kp G X V :=
  ⟨Nat.le_trans h.1 h2.1, fun k hk hk2 => by rw [h2.2 k (Nat.lt_of_lt_of_le hk h.1) (fun e => by rcases hG k e with h3 | h3; exact hk2 h3; omega), h.2 k hk hk2]⟩
theorem Kp.base {G : List Nat} {X W V : World} (h : Kp G X W) {B : Nat} (hb : Below B W V) (hB : X.heap.size ≤ B) : Kp G X V :=
  ⟨Nat.le_trans h.1 hb.size, fun k hk hg => (hb.block k (by omega)).trans (h.2 k hk hg)⟩
/-- A function value that reckons with one number, or with two. -/
def IsFrom (f : Nat) (F : Int → Int) : Prop :=
  (∀ args w, (callFunc f args).run Try.prog w = .ok (.enter f args) w) ∧ ∀ a, isI64 a → ∀ W, Calls Try.prog f #[.int .i64 a] W fun e w' => e = .returned (.int .i64 (F a)) ∧ Below W.heap.size W w'
/-- The first k of a side, taken together, up to the first error. -/
def foldN (F : Int → Int → Int × Int) (n0 : Int) (X : Nat → Int) : Nat → Int × Int
  | 0 => (n0, 0)
  | k + 1 => if (foldN F n0 X k).2 = 0 then F (foldN F n0 X k).1 (X k) else foldN F n0 X k
theorem foldN_stay (F : Int → Int → Int × Int) (n0 : Int) (X : Nat → Int) (k : Nat) (h : (foldN F n0 X k).2 ≠ 0) : ∀ n, k ≤ n → foldN F n0 X n = foldN F n0 X k
  | 0, hk => by
    have : k = 0 := by omega
    rw [this]
  | n + 1, hk => by
    by_cases e : k = n + 1
    · rw [e]
    · have ih := foldN_stay F n0 X k h n (by omega)
      simp only [foldN]
      rw [ih, if_neg h]
theorem foldN_I64 {F : Int → Int → Int × Int} (hF : ∀ a b, isI64 a → isI64 b → isI64 (F a b).1) {n0 : Int} (h0 : isI64 n0) {X : Nat → Int} : ∀ n, (∀ k, k < n → isI64 (X k)) → isI64 (foldN F n0 X n).1
  | 0, _ => h0
  | n + 1, hX => by
    have ih := foldN_I64 hF h0 n (fun k hk => hX k (by omega))
    simp only [foldN]
    split
    · exact hF _ _ ih (hX n (by omega))
    · exact ih
/-- One lane's number: the side folded, then ended. -/
def togG (Fw Fe : Int → Int → Int × Int) (Ff : Int → Int) (d : List Int) (sd bh : Nat) (p : Nat) : Int × Int :=
  let r := foldN Fw (Ff (rd d (laneAt sd bh p 0 : Nat))) (fun i => rd d (laneAt sd bh p i : Nat)) sd
  if r.2 = 0 then Fe r.1 (sd : Nat) else (0, r.2)
def bhOf (s : List Int) (a : Nat) : Nat := sizeS (s.drop (a + 1))
def sdOf (s : List Int) (a : Nat) : Nat := (rd s (a : Nat)).toNat
def togR (Fw Fe : Int → Int → Int × Int) (Ff : Int → Int) (s d : List Int) (ax : Int) : TR :=
  if tOk s d then (if 0 ≤ ax ∧ ax < s.length then eachR (togG Fw Fe Ff d (sdOf s ax.toNat) (bhOf s ax.toNat)) (s.eraseIdx ax.toNat) else (([], []), 20)) else (([], []), 30)
/-! how many stand ahead, and behind -/
theorem prod_take_drop (s : List Int) (k : Nat) : prod (s.take k) * prod (s.drop k) = prod s := by
  rw [← prod_append, List.take_append_drop]
theorem shapeOk_of {s : List Int} (h1 : s.length ≤ 3) (h2 : s.all sideOk = true) (h3 : prod s ≤ 64) : shapeOk s = true := by
  simp only [shapeOk, Bool.and_eq_true, decide_eq_true_eq]; exact ⟨⟨h1, h2⟩, h3⟩
theorem sides_drop (l : List Int) (k : Nat) (h : l.all sideOk = true) : (l.drop k).all sideOk = true := by
  simp only [List.all_eq_true] at *
  exact fun x hx => h x (List.mem_of_mem_drop hx)
theorem cut_ok {s : List Int} (h : shapeOk s = true) (k : Nat) : shapeOk (s.take k) = true ∧ shapeOk (s.drop k) = true := by
  obtain ⟨h1, h2, h3, h4, _⟩ := shapeOk_bd h
  have a := sides_take s k h2
  have b := sides_drop s k h2
  have p1 := (sides_bd _ a).1
  have p2 := (sides_bd _ b).1
  have e := prod_take_drop s k
  have q1 : prod (s.take k) ≤ prod s := by
    rw [← e]; have := Int.mul_le_mul_of_nonneg_left p2 (show 0 ≤ prod (s.take k) by omega); omega
  have q2 : prod (s.drop k) ≤ prod s := by
    rw [← e]; have := Int.mul_le_mul_of_nonneg_right p1 (show 0 ≤ prod (s.drop k) by omega); omega
  exact ⟨shapeOk_of (by simp; omega) a (by omega), shapeOk_of (by simp; omega) b (by omega)⟩
theorem sizeS_eq {s : List Int} (h : shapeOk s = true) : (sizeS s : Int) = prod s := (shapeOk_bd h).2.2.2.2
theorem drop_rd {s : List Int} {a : Nat} (h : a < s.length) : s.drop a = rd s (a : Nat) :: s.drop (a + 1) := by
  rw [List.drop_eq_getElem_cons h]; simp [rd, h]
theorem side_bd {s : List Int} (h : shapeOk s = true) {a : Nat} (ha : a < s.length) : 1 ≤ rd s (a : Nat) ∧ rd s (a : Nat) ≤ 16 := by
  have h2 := (shapeOk_bd h).2.1
  rw [List.all_eq_true] at h2
  have := h2 _ (rd_mem s a ha)
  simpa [sideOk] using this
theorem erase_ok {s : List Int} (h : shapeOk s = true) {a : Nat} (ha : a < s.length) : shapeOk (s.eraseIdx a) = true ∧ sizeS (s.eraseIdx a) = sizeS (s.take a) * bhOf s a ∧ sizeS s = sizeS (s.take a) * sdOf s a * bhOf s a ∧ 1 ≤ bhOf s a ∧ 1 ≤ sizeS (s.take a) := by
  obtain ⟨h1, h2, h3, h4, h5⟩ := shapeOk_bd h
  obtain ⟨t1, _⟩ := cut_ok h a
  obtain ⟨_, t2⟩ := cut_ok h (a + 1)
  have sd := side_bd h ha
  have e : prod (s.eraseIdx a) = prod (s.take a) * prod (s.drop (a + 1)) := by rw [List.eraseIdx_eq_take_drop_succ, prod_append]
  have e2 : prod s = prod (s.take a) * (rd s (a : Nat) * prod (s.drop (a + 1))) := by
    rw [← prod_take_drop s a, drop_rd ha]; rfl
  have q1 := sizeS_eq t1
  have q2 := sizeS_eq t2
  have p1 := sizeS_pos t1
  have p2 := sizeS_pos t2
  have hal : (s.eraseIdx a).all sideOk = true := by
    rw [List.all_eq_true] at *
    exact fun x hx => h2 x (List.mem_of_mem_eraseIdx hx)
  have le : prod (s.eraseIdx a) ≤ prod s := by
    rw [e, e2]
    refine Int.mul_le_mul_of_nonneg_left ?_ (by omega)
    have := Int.mul_le_mul_of_nonneg_right sd.1 (show 0 ≤ prod (s.drop (a + 1)) by omega)
    omega
  have ok : shapeOk (s.eraseIdx a) = true := shapeOk_of (by rw [List.length_eraseIdx]; split <;> omega) hal (by omega)
  refine ⟨ok, ?_, ?_, p2, p1⟩
  · have := sizeS_eq ok
    unfold bhOf
    have h' : ((sizeS (s.eraseIdx a) : Nat) : Int) = ((sizeS (s.take a) * sizeS (s.drop (a + 1)) : Nat) : Int) := by rw [this, e, Int.natCast_mul, q1, q2]
    exact Int.ofNat.inj h'
  · unfold bhOf sdOf
    have hs : (((rd s (a : Nat)).toNat : Nat) : Int) = rd s (a : Nat) := by omega
    have h' : ((sizeS s : Nat) : Int) = ((sizeS (s.take a) * (rd s (a : Nat)).toNat * sizeS (s.drop (a + 1)) : Nat) : Int) := by
      rw [h5, e2, Int.natCast_mul, Int.natCast_mul, q1, q2, hs, Int.mul_assoc]
    exact Int.ofNat.inj h'
theorem lane_lt {ah sd bh p i : Nat} (hp : p < ah * bh) (hi : i < sd) (hb : 1 ≤ bh) : laneAt sd bh p i < ah * sd * bh := by
  unfold laneAt
  have h1 : p / bh < ah := by rw [Nat.div_lt_iff_lt_mul (by omega)]; exact hp
  have h2 : p % bh < bh := Nat.mod_lt _ (by omega)
  have h3 : p / bh * sd + i + 1 ≤ ah * sd := by
    have := Nat.mul_le_mul_right sd (show p / bh + 1 ≤ ah by omega)
    rw [Nat.add_mul] at this; omega
  have h4 := Nat.mul_le_mul_right bh h3
  rw [Nat.add_mul] at h4
  omega
theorem eachR_err {G : Nat → Int × Int} {s : List Int} {k : Nat} {y : Int} (hk : errG G k = 0) (hy : (G k).2 = y) (hne : y ≠ 0) (hlt : k < sizeS s) : eachR G s = (([], []), y) := by
  have h1 : errG G (k + 1) = y := by simp only [errG, hk, if_true]; exact hy
  have h2 : errG G (sizeS s) = y := by rw [errG_stay G (k + 1) (by rw [h1]; exact hne) _ (by omega), h1]
  unfold eachR eachS eachD
  rw [h2, if_neg hne, if_neg hne]
theorem errG_next {G : Nat → Int × Int} {k : Nat} (hk : errG G k = 0) (hy : (G k).2 = 0) : errG G (k + 1) = 0 := by simp only [errG, hk, if_true]; exact hy
theorem foldN_next {F : Int → Int → Int × Int} {n0 : Int} {X : Nat → Int} {k : Nat} {n : Int} (h : foldN F n0 X k = (n, 0)) : foldN F n0 X (k + 1) = F n (X k) := by simp only [foldN, h, if_true]
theorem togG_err {Fw Fe : Int → Int → Int × Int} {Ff : Int → Int} {d : List Int} {sd bh p i : Nat} {n y : Int} (h : foldN Fw (Ff (rd d (laneAt sd bh p 0 : Nat))) (fun i => rd d (laneAt sd bh p i : Nat)) i = (n, 0)) (hy : (Fw n (rd d (laneAt sd bh p i : Nat))).2 = y) (hne : y ≠ 0) (hi : i < sd) : (togG Fw Fe Ff d sd bh p).2 = y := by
  have h1 := foldN_next h
  have h2 := foldN_stay Fw _ (fun i => rd d (laneAt sd bh p i : Nat)) (i + 1) (by rw [h1, hy]; exact hne) sd (by omega)
  unfold togG
  simp only
  rw [h2, h1, hy, if_neg hne]
theorem togG_end {Fw Fe : Int → Int → Int × Int} {Ff : Int → Int} {d : List Int} {sd bh p : Nat} {n : Int} (h : foldN Fw (Ff (rd d (laneAt sd bh p 0 : Nat))) (fun i => rd d (laneAt sd bh p i : Nat)) sd = (n, 0)) : togG Fw Fe Ff d sd bh p = Fe n (sd : Nat) := by
  unfold togG
  simp only
  rw [h, if_pos rfl]
end Go.Proofs.Ytpnigmcpifilmaa.P
