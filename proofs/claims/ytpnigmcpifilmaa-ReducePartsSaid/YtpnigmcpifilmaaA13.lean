/- Contract of elem.One. -/
import Derived.Test.YtpnigmcpifilmaaA12
import Derived.Laws.EntriesVeiled
namespace Go.Proofs.Ytpnigmcpifilmaa.P
open Go.RowKit Go.Shelf Go.Proofs.YtpnigmcpifilmaaW.PrintWords Go.Proofs.YtpnigmcpifilmaaW.PrintLast Go.Proofs.YtpnigmcpifilmaaW.PrintMore
set_option linter.unusedVariables false
set_option linter.unusedSimpArgs false
/-! what a number's kind does -/
theorem eql_nilF {P : Program} {t : TypeId} {ps rs : Array TypeId} {b : Bool} (ht : P.underlying t = some (.func ps rs b)) (w : World) : (binOp BinOp.eql t .nilFunc .nilFunc).run P w = .ok (.bool true) w := by
  have h : ∀ d : Nat, (Op.equalIn (d + 1) t .nilFunc .nilFunc).run P w = .ok true w := fun d => by simp [Op.equalIn, run_underlying ht]
  simp only [binOp]
  simp [Op.equal, Op.maxDepth, h 9999]
theorem eql_someF {P : Program} {t : TypeId} {ps rs : Array TypeId} {b : Bool} (ht : P.underlying t = some (.func ps rs b)) (f : Nat) (w : World) : (binOp BinOp.eql t (.func (.func f) #[] #[]) .nilFunc).run P w = .ok (.bool false) w := by
  have h : ∀ d : Nat, (Op.equalIn (d + 1) t (.func (.func f) #[] #[]) .nilFunc).run P w = .ok false w := fun d => by simp [Op.equalIn, run_underlying ht]
  simp only [binOp]
  simp [Op.equal, Op.maxDepth, h 9999]
def twoF (op : Int) : Option (Int → Int → Int × Int) :=
  if op = 10 then some addF else if op = 11 then some subF else if op = 12 then some mulF else if op = 13 then some divF else none
def oneF (op : Int) : Option (Int → Int × Int) :=
  if op = 20 then some negF else if op = 21 then some reluF else if op = 22 then some powF else if op = 23 then some sqrtF else none
def kindV (op : Int) : Value := match Instr.findNow (.int .i64) (.int .i64 op) kindsE.toList 0 with
  | some (some (_, v)) => v
  | _ => .agg #[.nilFunc, .nilFunc]
theorem findNow_kinds (op : Int) : ∃ r, Instr.findNow (.int .i64) (.int .i64 op) kindsE.toList 0 = some r := by
  simp only [kindsE, Instr.findNow, Instr.sameNow]
  repeat' split
  all_goals first | exact ⟨_, rfl⟩ | simp_all
theorem run_kinds {w : World} {b : Nat} (op : Int) (hb : w.heap[b]? = some (.map kindsE 8)) :
    (Instr.lookup 66 (.map (some b)) (.int .i64 op) false).run Try.prog w = .ok (kindV op) w := by
  obtain ⟨r, hr⟩ := findNow_kinds op
  have hc : ∀ e, (Instr.checkKey e 10000 3 (.int .i64 op)).run Try.prog w = .ok () w := fun e => MapKept.run_checkKey (k := .int .i64 op) Try.underlying3 rfl e 9999
  have hz : (zeroValue 65).run Try.prog w = .ok (.agg #[.nilFunc, .nilFunc]) w := Try.zeroValue65 w
  have hf := MapKept.run_findKey (w := w) Try.underlying3 hr
  cases r with
  | none =>
    have hv : kindV op = .agg #[.nilFunc, .nilFunc] := by unfold kindV; rw [hr]
    rw [hv]
    simp [Instr.lookup, run_underlying Try.underlying66, MapKept.run_getObj_map hb, hc, hf, hz, Result.andThen]
  | some x =>
    have hv : kindV op = x.2 := by unfold kindV; rw [hr]
    rw [hv]
    simp [Instr.lookup, run_underlying Try.underlying66, MapKept.run_getObj_map hb, hc, hf, Result.andThen]
/-- What a function of two numbers is. -/
def IsTwo (f : Nat) (F : Int → Int → Int × Int) : Prop :=
  (∀ args w, (callFunc f args).run Try.prog w = .ok (.enter f args) w) ∧ ∀ a b, isI64 a → isI64 b → ∀ W, Calls Try.prog f #[.int .i64 a, .int .i64 b] W fun e w' => e = .returned (.tuple #[.int .i64 (F a b).1, .int .i64 (F a b).2]) ∧ Below W.heap.size W w'
def IsOne (f : Nat) (F : Int → Int × Int) : Prop :=
  (∀ args w, (callFunc f args).run Try.prog w = .ok (.enter f args) w) ∧ ∀ a, isI64 a → ∀ W, Calls Try.prog f #[.int .i64 a] W fun e w' => e = .returned (.tuple #[.int .i64 (F a).1, .int .i64 (F a).2]) ∧ Below W.heap.size W w'
theorem two_kind (op : Int) (F : Int → Int → Int × Int) (h : twoF op = some F) : ∃ f, kindV op = .agg #[.nilFunc, .func (.func f) #[] #[]] ∧ IsTwo f F := by
  unfold twoF at h
  split at h
  · rename_i e; subst e; cases h
    exact ⟨59, rfl, enters_of Try.func59 (by kernel_rfl) rfl, fun a b ha hb W => (add_any a b ha hb W).mono fun e w' hh => ⟨hh.1, by rw [← hh.2]; exact Below.refl _ _⟩⟩
  split at h
  · rename_i e; subst e; cases h
    exact ⟨91, rfl, enters_of Try.func91 (by kernel_rfl) rfl, fun a b ha hb W => (sub_any a b ha hb W).mono fun e w' hh => ⟨hh.1, by rw [← hh.2]; exact Below.refl _ _⟩⟩
  split at h
  · rename_i e; subst e; cases h
    exact ⟨21, rfl, enters_of Try.func21 (by kernel_rfl) rfl, fun a b ha hb W => fixMul_any a b ha hb W⟩
  split at h
  · rename_i e; subst e; cases h
    exact ⟨92, rfl, enters_of Try.func92 (by kernel_rfl) rfl, fun a b ha hb W => fixDiv_any a b ha hb W⟩
  cases h
theorem one_kind (op : Int) (F : Int → Int × Int) (h : oneF op = some F) : ∃ f, kindV op = .agg #[.func (.func f) #[] #[], .nilFunc] ∧ IsOne f F := by
  unfold oneF at h
  split at h
  · rename_i e; subst e; cases h
    exact ⟨93, rfl, enters_of Try.func93 (by kernel_rfl) rfl, fun a ha W => (neg_any a ha W).mono fun e w' hh => ⟨hh.1, by rw [← hh.2]; exact Below.refl _ _⟩⟩
  split at h
  · rename_i e; subst e; cases h
    exact ⟨90, rfl, enters_of Try.func90 (by kernel_rfl) rfl, fun a ha W => (relu_any a W).mono fun e w' hh => ⟨hh.1, by rw [← hh.2]; exact Below.refl _ _⟩⟩
  split at h
  · rename_i e; subst e; cases h
    exact ⟨94, rfl, enters_of Try.func94 (by kernel_rfl) rfl, fun a ha W => (pow_any a ha W).mono fun e w' hh => ⟨hh.1, hh.2.below⟩⟩
  split at h
  · rename_i e; subst e; cases h
    exact ⟨95, rfl, enters_of Try.func95 (by kernel_rfl) rfl, fun a ha W => (sqrt_any a ha W).mono fun e w' hh => ⟨hh.1, by rw [← hh.2]; exact Below.refl _ _⟩⟩
  cases h
theorem two_none (op : Int) (h : twoF op = none) : ∃ v, kindV op = .agg #[v, .nilFunc] ∧ (v = .nilFunc ∨ ∃ f, v = .func (.func f) #[] #[]) := by
  have h1 : op ≠ 10 ∧ op ≠ 11 ∧ op ≠ 12 ∧ op ≠ 13 := by
    unfold twoF at h; repeat' split at h
    all_goals first | cases h; done | (refine ⟨?_, ?_, ?_, ?_⟩ <;> assumption)
  by_cases e20 : op = 20
  · subst e20; exact ⟨_, rfl, .inr ⟨_, rfl⟩⟩
  by_cases e21 : op = 21
  · subst e21; exact ⟨_, rfl, .inr ⟨_, rfl⟩⟩
  by_cases e22 : op = 22
  · subst e22; exact ⟨_, rfl, .inr ⟨_, rfl⟩⟩
  by_cases e23 : op = 23
  · subst e23; exact ⟨_, rfl, .inr ⟨_, rfl⟩⟩
  unfold kindV
  simp only [kindsE, Instr.findNow, Instr.sameNow, show (op == 10) = false by simpa using h1.1, show (op == 11) = false by simpa using h1.2.1, show (op == 12) = false by simpa using h1.2.2.1, show (op == 13) = false by simpa using h1.2.2.2, show (op == 20) = false by simpa using e20, show (op == 21) = false by simpa using e21, show (op == 22) = false by simpa using e22, show (op == 23) = false by simpa using e23, if_true]
  exact ⟨_, rfl, .inl rfl⟩
theorem one_none (op : Int) (h : oneF op = none) : ∃ v, kindV op = .agg #[.nilFunc, v] ∧ (v = .nilFunc ∨ ∃ f, v = .func (.func f) #[] #[]) := by
  have h1 : op ≠ 20 ∧ op ≠ 21 ∧ op ≠ 22 ∧ op ≠ 23 := by
    unfold oneF at h; repeat' split at h
    all_goals first | cases h; done | (refine ⟨?_, ?_, ?_, ?_⟩ <;> assumption)
  by_cases e10 : op = 10
  · subst e10; exact ⟨_, rfl, .inr ⟨_, rfl⟩⟩
  by_cases e11 : op = 11
  · subst e11; exact ⟨_, rfl, .inr ⟨_, rfl⟩⟩
  by_cases e12 : op = 12
  · subst e12; exact ⟨_, rfl, .inr ⟨_, rfl⟩⟩
  by_cases e13 : op = 13
  · subst e13; exact ⟨_, rfl, .inr ⟨_, rfl⟩⟩
  unfold kindV
  simp only [kindsE, Instr.findNow, Instr.sameNow, show (op == 20) = false by simpa using h1.1, show (op == 21) = false by simpa using h1.2.1, show (op == 22) = false by simpa using h1.2.2.1, show (op == 23) = false by simpa using h1.2.2.2, show (op == 10) = false by simpa using e10, show (op == 11) = false by simpa using e11, show (op == 12) = false by simpa using e12, show (op == 13) = false by simpa using e13, if_true]
  exact ⟨_, rfl, .inl rfl⟩
abbrev TR := (List Int × List Int) × Int
/-- What a call that gives a tensor and an error leaves. -/
def TPost (w : World) (r : TR) (e : Ending) (w' : World) : Prop :=
  ∃ v0 v1 : Value, e = .returned (.tuple #[.agg #[v0, v1], .int .i64 r.2]) ∧ RdN w.heap.size w' v0 r.1.1 ∧ RdN w.heap.size w' v1 r.1.2 ∧ Below w.heap.size w w'
def twoG (F : Int → Int → Int × Int) (a1 a2 b1 b2 s : List Int) (k : Nat) : Int × Int := F (rd (spreadD a1 a2 s) k) (rd (spreadD b1 b2 s) k)
def eachR (G : Nat → Int × Int) (s : List Int) : TR := ((eachS G s, eachD G s), errG G (sizeS s))
def elemTwo (op : Int) (a1 a2 b1 b2 : List Int) : TR :=
  match twoF op with
  | none => (([], []), 1)
  | some F => if tOk a1 a2 && tOk b1 b2 then (if joinOk a1 b1 then eachR (twoG F a1 a2 b1 b2 (joinL a1 b1)) (joinL a1 b1) else (([], []), 20)) else (([], []), 30)
def elemOne (op : Int) (a1 a2 : List Int) : TR :=
  match oneF op with
  | none => (([], []), 1)
  | some F => if tOk a1 a2 then eachR (fun k => F (rd a2 k)) a1 else (([], []), 30)
theorem end_err {fn : Func} {p u : Tmp} (h : fn.results = #[.cell p 24, .tmp u]) (tmps : Array Value) (w W : World) (g : Nat) (er : Int) (hp : tmps.getD p undef = .pointer (some ⟨g, 0, none⟩)) (hu : tmps.getD u undef = .int .i64 er)
    (hB : Below w.heap.size w W) (hg : w.heap.size ≤ g) (hk : W.heap[g]? = some (.cells #[.slice none 0 0, .slice none 0 0] 24 (0, 0))) (r : TR) (hr : r = (([], []), er)) :
    bodyPost Try.prog fn (TPost w r) Exit.ret { tmps := tmps, defers := [] } ((W.setCell ⟨g, 0, none⟩ (.slice none 0 0)).setCell ⟨g, 1, none⟩ (.slice none 0 0)) := by
  have F4 : ((W.setCell ⟨g, 0, none⟩ (.slice none 0 0)).setCell ⟨g, 1, none⟩ (.slice none 0 0)).heap[g]? = some (.cells #[.slice none 0 0, .slice none 0 0] 24 (0, 0)) := blk_put (cs := #[.slice none 0 0, .slice none 0 0]) (blk_put (cs := #[.slice none 0 0, .slice none 0 0]) hk 0 _ rfl) 1 _ rfl
  refine bodyPost_ret (results_ct h _ _ g 24 #[.slice none 0 0, .slice none 0 0] (0, 0) _ hp F4 Try.underlying24 rfl (by kernel_rfl)) rfl ?_
  subst hr
  exact ⟨_, _, by rw [hu], RdN.nil _ _, RdN.nil _ _, (hB.setCell (p := ⟨g, 0, none⟩) hg _).setCell (p := ⟨g, 1, none⟩) hg _⟩
theorem end_val {fn : Func} {p u : Tmp} (h : fn.results = #[.cell p 24, .tmp u]) (tmps : Array Value) (w W : World) (g : Nat) (r : TR) (v0 v1 : Value) (hp : tmps.getD p undef = .pointer (some ⟨g, 0, none⟩)) (hu : tmps.getD u undef = .int .i64 r.2)
    (hB : Below w.heap.size w W) (hg : w.heap.size ≤ g) (hk : W.heap[g]? = some (.cells #[.slice none 0 0, .slice none 0 0] 24 (0, 0))) (m : Nat) (hm : g < m) (hm2 : w.heap.size ≤ m) (h0 : RdN m W v0 r.1.1) (h1 : RdN m W v1 r.1.2) :
    bodyPost Try.prog fn (TPost w r) Exit.ret { tmps := tmps, defers := [] } ((W.setCell ⟨g, 0, none⟩ v0).setCell ⟨g, 1, none⟩ v1) := by
  have F4 : ((W.setCell ⟨g, 0, none⟩ v0).setCell ⟨g, 1, none⟩ v1).heap[g]? = some (.cells #[v0, v1] 24 (0, 0)) := blk_put (cs := #[v0, .slice none 0 0]) (blk_put (cs := #[.slice none 0 0, .slice none 0 0]) hk 0 _ rfl) 1 _ rfl
  refine bodyPost_ret (results_ct h _ _ g 24 #[v0, v1] (0, 0) _ hp F4 Try.underlying24 rfl (by kernel_rfl)) rfl ?_
  have hS : ((W.setCell ⟨g, 0, none⟩ v0).setCell ⟨g, 1, none⟩ v1).heap.size = W.heap.size := by rw [set_size, set_size]
  have hk2 : ∀ k, k ≠ g → ((W.setCell ⟨g, 0, none⟩ v0).setCell ⟨g, 1, none⟩ v1).heap[k]? = W.heap[k]? := fun k hk => by rw [set_far _ _ _ _ hk, set_far _ _ _ _ hk]
  exact ⟨_, _, by rw [hu], fun w9 h9 => h0 w9 (fun k k1 k2 => by rw [h9 k (by omega) (by rw [hS]; exact k2), hk2 k (by omega)]), fun w9 h9 => h1 w9 (fun k k1 k2 => by rw [h9 k (by omega) (by rw [hS]; exact k2), hk2 k (by omega)]), (hB.setCell (p := ⟨g, 0, none⟩) hg _).setCell (p := ⟨g, 1, none⟩) hg _⟩
set_option maxRecDepth 100000 in
theorem one_any (op : Int) (A0 : Option Addr) (c0 : Nat) (a1 : List Int) (A1 : Option Addr) (c1 : Nat) (a2 : List Int) (w : World)
    (hr0 : Kd.C (Kd.int .i64) w A0 a1.length a1) (hc0 : a1.length ≤ c0) (hr1 : Kd.C (Kd.int .i64) w A1 a2.length a2) (hi : ∀ x ∈ a2, isI64 x) :
    Calls Try.prog 22 #[.int .i64 op, .agg #[.slice A0 a1.length c0, .slice A1 a2.length c1]] w (TPost w (elemOne op a1 a2)) := by
  have HR := Aside0.mk (And.intro hr0 (And.intro hc0 (And.intro hr1 hi)))
  clear hr0 hc0 hr1 hi
  go_enter Try.func22, Try.ntmps22
  go_wp2_with fail
  obtain ⟨w1, hw1⟩ : ∃ w1, ((w.alloc (Obj.cells #[.slice A0 a1.length c0, .slice A1 a2.length c1] 24)).alloc (Obj.cells #[.slice none 0 0, .slice none 0 0] 24)) = w1 := ⟨_, rfl⟩
  have S1 : Aside0 (w1.heap.size = w.heap.size + 2) := ⟨by rw [← hw1]; exact (Array.size_push _).trans (congrArg (· + 1) (Array.size_push _))⟩
  have BT1 : Aside0 (w1.heap[w.heap.size]? = some (.cells #[.slice A0 a1.length c0, .slice A1 a2.length c1] 24 (0, 0))) := ⟨by rw [← hw1]; exact blk_alloc (blk_new _ _) _⟩
  have BR1 : Aside0 (w1.heap[w.heap.size + 1]? = some (.cells #[.slice none 0 0, .slice none 0 0] 24 (0, 0))) := ⟨by rw [← hw1]; have := blk_new (w.alloc (Obj.cells #[.slice A0 a1.length c0, .slice A1 a2.length c1] 24)) (Obj.cells #[.slice none 0 0, .slice none 0 0] 24); rwa [World.size_alloc] at this⟩
  have B1 : Aside0 (Below w.heap.size w w1) := ⟨by rw [← hw1]; exact below_alloc (below_alloc (Below.refl _ _) _) _⟩
  rw [hw1]
  clear hw1
  refine (kinds_any w1).mono ?_
  rintro e w2 ⟨rfl, hm, hb⟩
  have B2 : Aside0 (Below w.heap.size w w2) := ⟨below_then B1.out B1.out.size hb⟩
  have BT2 := Aside0.mk (blk_below BT1.out hb)
  have BR2 := Aside0.mk (blk_below BR1.out hb)
  have S2 := Aside0.mk hb.size
  have HL := run_kinds op hm
  clear hm hb
  cases ho : oneF op with
  | none =>
    obtain ⟨kv, hkv, hv⟩ := one_none op ho
    rw [hkv] at HL
    have EV : Aside0 (elemOne op a1 a2 = (([], []), 1)) := ⟨by unfold elemOne; rw [ho]⟩
    clear ho hkv
    have n1 := eql_nilF (P := Try.prog) Try.underlying63
    have n2 := eql_someF (P := Try.prog) Try.underlying63
    rcases hv with rfl | ⟨f, rfl⟩
    · have BR3 := Aside0.mk (blk_alloc BR2.out (Obj.cells #[.nilFunc, .nilFunc] 65))
      have q1 : (w2.alloc (Obj.cells #[.nilFunc, .nilFunc] 65)).cell? ⟨w.heap.size + 1, 0, none⟩ = some (.slice none 0 0) := (blk_cell BR3.out 0).trans rfl
      have q2 : (w2.alloc (Obj.cells #[.nilFunc, .nilFunc] 65)).cell? ⟨w.heap.size + 1, 1, none⟩ = some (.slice none 0 0) := (blk_cell BR3.out 1).trans rfl
      have q3 := blk_frozen BR3.out 0
      have q4 := blk_frozen BR3.out 1
      have B3 : Aside0 (Below w.heap.size w (w2.alloc (Obj.cells #[.nilFunc, .nilFunc] 65))) := ⟨below_alloc B2.out _⟩
      go_wp2_with fail
      exact end_err rfl _ w _ (w.heap.size + 1) 1 rfl rfl B3.out (by omega) BR3.out _ EV.out
    · have BR3 := Aside0.mk (blk_alloc BR2.out (Obj.cells #[.nilFunc, .func (.func f) #[] #[]] 65))
      have q1 : (w2.alloc (Obj.cells #[.nilFunc, .func (.func f) #[] #[]] 65)).cell? ⟨w.heap.size + 1, 0, none⟩ = some (.slice none 0 0) := (blk_cell BR3.out 0).trans rfl
      have q2 : (w2.alloc (Obj.cells #[.nilFunc, .func (.func f) #[] #[]] 65)).cell? ⟨w.heap.size + 1, 1, none⟩ = some (.slice none 0 0) := (blk_cell BR3.out 1).trans rfl
      have q3 := blk_frozen BR3.out 0
      have q4 := blk_frozen BR3.out 1
      have B3 : Aside0 (Below w.heap.size w (w2.alloc (Obj.cells #[.nilFunc, .func (.func f) #[] #[]] 65))) := ⟨below_alloc B2.out _⟩
      go_wp2_with fail
      exact end_err rfl _ w _ (w.heap.size + 1) 1 rfl rfl B3.out (by omega) BR3.out _ EV.out
  | some F =>
    obtain ⟨f, hkv, he, hF⟩ := one_kind op F ho
    rw [hkv] at HL
    have n2 := eql_someF (P := Try.prog) Try.underlying63 f
    have HF := Aside0.mk hF
    have HO := Aside0.mk ho
    clear hF ho hkv
    have BK3 : Aside0 ((w2.alloc (Obj.cells #[.func (.func f) #[] #[], .nilFunc] 65)).heap[w2.heap.size]? = some (.cells #[.func (.func f) #[] #[], .nilFunc] 65 (0, 0))) := ⟨blk_new _ _⟩
    have BR3 := Aside0.mk (blk_alloc BR2.out (Obj.cells #[.func (.func f) #[] #[], .nilFunc] 65))
    have BT3 := Aside0.mk (blk_alloc BT2.out (Obj.cells #[.func (.func f) #[] #[], .nilFunc] 65))
    have B3 : Aside0 (Below w.heap.size w (w2.alloc (Obj.cells #[.func (.func f) #[] #[], .nilFunc] 65))) := ⟨below_alloc B2.out _⟩
    have S3 : Aside0 ((w2.alloc (Obj.cells #[.func (.func f) #[] #[], .nilFunc] 65)).heap.size = w2.heap.size + 1) := ⟨Array.size_push _⟩
    obtain ⟨w3, hw3⟩ : ∃ w3, (w2.alloc (Obj.cells #[.func (.func f) #[] #[], .nilFunc] 65)) = w3 := ⟨_, rfl⟩
    have q1 : (w2.alloc (Obj.cells #[.func (.func f) #[] #[], .nilFunc] 65)).cell? ⟨w.heap.size, 0, none⟩ = some (.slice A0 a1.length c0) := (blk_cell BT3.out 0).trans rfl
    have q2 : (w2.alloc (Obj.cells #[.func (.func f) #[] #[], .nilFunc] 65)).cell? ⟨w.heap.size, 1, none⟩ = some (.slice A1 a2.length c1) := (blk_cell BT3.out 1).trans rfl
    rw [hw3] at BK3 BR3 BT3 B3 S3
    have HW3 := Aside0.mk hw3
    clear hw3
    go_wp2_with fail
    rw [HW3.out]
    clear q1 q2
    refine (tcheck_any A0 c0 a1 A1 c1 a2 w3 (Kd.C_below HR.out.1 B3.out)).mono ?_
    by_cases ht : tOk a1 a2 = true
    · rw [ht]
      have HT := Aside0.mk ht
      clear ht
      rintro e w4 ⟨rfl, hb⟩
      have B4 : Aside0 (Below w.heap.size w w4) := ⟨below_then B3.out B3.out.size hb⟩
      have BK4 := Aside0.mk (blk_below BK3.out hb)
      have BT4 := Aside0.mk (blk_below BT3.out hb)
      have BR4 := Aside0.mk (blk_below BR3.out hb)
      have S4 := Aside0.mk hb.size
      clear hb
      have q1 : w4.cell? ⟨w.heap.size, 0, none⟩ = some (.slice A0 a1.length c0) := (blk_cell BT4.out 0).trans rfl
      have tk := HT.out
      simp only [tOk, Bool.and_eq_true, decide_eq_true_eq] at tk
      have TK := Aside0.mk tk
      clear tk
      go_wp2_with fail
      refine (each_any 56 #[.pointer (some ⟨w2.heap.size, 0, none⟩), .pointer (some ⟨w.heap.size, 0, none⟩)] (enters_of Try.func56 (by kernel_rfl) rfl) A0 c0 a1 (fun k => F (rd a2 k)) w4 (Kd.C_below HR.out.1 B4.out) HR.out.2.1 TK.out.1 (fun k hk W hW => ?_)).mono ?_
      · refine one1_any f he w2.heap.size w.heap.size .nilFunc (.slice A0 a1.length c0) A1 c1 a2 k F W (blk_below BK4.out hW) (blk_below BT4.out hW) (Kd.C_below HR.out.2.2.1 (B4.out.trans (hW.mono B4.out.size))) (by have := TK.out.2; omega) (by have := sizeS_le a1; omega) (fun W' => HF.out _ (HR.out.2.2.2 _ (rd_mem _ _ (by have := TK.out.2; omega))) W')
      rintro e w5 ⟨v0, v1, rfl, h0, h1, hb⟩
      have EV : Aside0 (elemOne op a1 a2 = eachR (fun k => F (rd a2 k)) a1) := ⟨by unfold elemOne; rw [HO.out]; simp only [HT.out, if_true]⟩
      have H0 := Aside0.mk h0
      have H1 := Aside0.mk h1
      obtain ⟨X0, y0, rfl, _, _⟩ := h0.rd
      obtain ⟨X1, y1, rfl, _, _⟩ := h1.rd
      have BR5 := Aside0.mk (blk_below BR4.out hb)
      have B5 : Aside0 (Below w.heap.size w w5) := ⟨below_then B4.out B4.out.size hb⟩
      have q1 : w5.cell? ⟨w.heap.size + 1, 0, none⟩ = some (.slice none 0 0) := (blk_cell BR5.out 0).trans rfl
      have q2 : w5.cell? ⟨w.heap.size + 1, 1, none⟩ = some (.slice none 0 0) := (blk_cell BR5.out 1).trans rfl
      have q3 := blk_frozen BR5.out 0
      have q4 := blk_frozen BR5.out 1
      obtain ⟨er, her⟩ : ∃ er, errG (fun k => F (rd a2 k)) (sizeS a1) = er := ⟨_, rfl⟩
      rw [her]
      have ER := Aside0.mk her
      clear hb h0 h1 her
      go_wp2_with fail
      rw [EV.out]
      exact end_val rfl _ w w5 (w.heap.size + 1) _ _ _ rfl (by unfold eachR; rw [ER.out]; rfl) B5.out (by omega) BR5.out w4.heap.size (by have := S1.out; have := S2.out; have := S3.out; have := S4.out; omega) (by have := B4.out.size; omega) H0.out H1.out
    · have ht' : tOk a1 a2 = false := by simpa using ht
      rw [ht']
      have EV : Aside0 (elemOne op a1 a2 = (([], []), 30)) := ⟨by unfold elemOne; rw [HO.out]; simp only [ht', Bool.false_eq_true, if_false]⟩
      clear ht ht'
      rintro e w4 ⟨rfl, hb⟩
      have B4 : Aside0 (Below w.heap.size w w4) := ⟨below_then B3.out B3.out.size hb⟩
      have BR4 := Aside0.mk (blk_below BR3.out hb)
      have q1 : w4.cell? ⟨w.heap.size + 1, 0, none⟩ = some (.slice none 0 0) := (blk_cell BR4.out 0).trans rfl
      have q2 : w4.cell? ⟨w.heap.size + 1, 1, none⟩ = some (.slice none 0 0) := (blk_cell BR4.out 1).trans rfl
      have q3 := blk_frozen BR4.out 0
      have q4 := blk_frozen BR4.out 1
      clear hb
      go_wp2_with fail
      exact end_err rfl _ w _ (w.heap.size + 1) 30 rfl rfl B4.out (by omega) BR4.out _ EV.out
end Go.Proofs.Ytpnigmcpifilmaa.P
