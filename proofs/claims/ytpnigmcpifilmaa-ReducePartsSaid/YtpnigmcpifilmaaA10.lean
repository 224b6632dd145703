/- Contract of elem.kinds. -/
import Derived.Test.YtpnigmcpifilmaaA9
import Derived.MapKept
import Derived.WideMake
namespace Go.Proofs.Ytpnigmcpifilmaa.P
open Go.RowKit Go.Shelf Go.Proofs.YtpnigmcpifilmaaW.PrintWords Go.Proofs.YtpnigmcpifilmaaW.PrintLast Go.Proofs.YtpnigmcpifilmaaW.PrintMore
set_option linter.unusedVariables false
set_option linter.unusedSimpArgs false
theorem run_ins {P : Program} {w : World} {b clock : Nat} {es : Array MapEntry} {t kt et : TypeId} {n : Int} {val : Value} (hm : P.underlying t = some (.map kt et)) (hk : P.underlying kt = some (.int .i64))
    (hb : w.heap[b]? = some (.map es clock)) (hf : Instr.findNow (.int .i64) (.int .i64 n) es.toList 0 = some none) :
    (Instr.mapUpdate t (.map (some b)) (.int .i64 n) val).run P w = .ok () (w.putObj b (.map (es.push { key := .int .i64 n, val := val, born := clock }) (clock + 1))) := by
  have hc : (Instr.checkKey false 10000 kt (.int .i64 n)).run P w = .ok () w := MapKept.run_checkKey (k := .int .i64 n) hk rfl false 9999
  simp [Instr.mapUpdate, run_underlying hm, MapKept.run_getObj_map hb, hc, MapKept.run_findKey hk hf, MapKept.run_setObj_map _ hb, Result.andThen]
  rfl
def kindsE : Array MapEntry := #[{ key := .int .i64 10, val := .agg #[.nilFunc, .func (.func 59) #[] #[]], born := 0 }, { key := .int .i64 11, val := .agg #[.nilFunc, .func (.func 91) #[] #[]], born := 1 }, { key := .int .i64 12, val := .agg #[.nilFunc, .func (.func 21) #[] #[]], born := 2 }, { key := .int .i64 13, val := .agg #[.nilFunc, .func (.func 92) #[] #[]], born := 3 }, { key := .int .i64 20, val := .agg #[.func (.func 93) #[] #[], .nilFunc], born := 4 }, { key := .int .i64 21, val := .agg #[.func (.func 90) #[] #[], .nilFunc], born := 5 }, { key := .int .i64 22, val := .agg #[.func (.func 94) #[] #[], .nilFunc], born := 6 }, { key := .int .i64 23, val := .agg #[.func (.func 95) #[] #[], .nilFunc], born := 7 }]
theorem ins_step {w W : World} {b clock : Nat} {es : Array MapEntry} (n : Int) (val : Value) (hB : Below w.heap.size w W) (hb0 : w.heap.size ≤ b) (hb : W.heap[b]? = some (.map es clock)) (hf : Instr.findNow (.int .i64) (.int .i64 n) es.toList 0 = some none) :
    ∃ W', (Instr.mapUpdate 66 (.map (some b)) (.int .i64 n) val).run Try.prog W = .ok () W' ∧ Aside0 (W'.heap[b]? = some (.map (es.push { key := .int .i64 n, val := val, born := clock }) (clock + 1))) ∧ Aside0 (Below w.heap.size w W') := by
  refine ⟨_, run_ins Try.underlying66 Try.underlying3 hb hf, ⟨World.putObj_heap_same (blk_lt hb)⟩, ⟨hB.grown (grownBy_putObj' W b _) hB.size (fun k e => by cases e; exact hb0)⟩⟩
set_option maxRecDepth 100000 in
theorem kinds_any (w : World) :
    Calls Try.prog 45 #[] w fun e w' => e = .returned (.map (some w.heap.size)) ∧ w'.heap[w.heap.size]? = some (.map kindsE 8) ∧ Below w.heap.size w w' := by
  obtain ⟨w0, hw0⟩ : ∃ w0, w.alloc (.map #[] 0) = w0 := ⟨_, rfl⟩
  have hmk : (Instr.makeMap 66 none).run Try.prog w = .ok (.map (some w.heap.size)) w0 := by rw [← hw0]; exact run_makeMap_plain w _
  have B0 : Aside0 (Below w.heap.size w w0) := ⟨by rw [← hw0]; exact below_alloc (Below.refl _ _) _⟩
  have M0 : Aside0 (w0.heap[w.heap.size]? = some (.map #[] 0)) := ⟨by rw [← hw0]; exact blk_new _ _⟩
  clear hw0
  obtain ⟨w1, h1, M1, B1⟩ := ins_step (w := w) 10 (.agg #[.nilFunc, .func (.func 59) #[] #[]]) B0.out (Nat.le_refl _) M0.out (by rfl)
  obtain ⟨w2, h2, M2, B2⟩ := ins_step (w := w) 11 (.agg #[.nilFunc, .func (.func 91) #[] #[]]) B1.out (Nat.le_refl _) M1.out (by rfl)
  obtain ⟨w3, h3, M3, B3⟩ := ins_step (w := w) 12 (.agg #[.nilFunc, .func (.func 21) #[] #[]]) B2.out (Nat.le_refl _) M2.out (by rfl)
  obtain ⟨w4, h4, M4, B4⟩ := ins_step (w := w) 13 (.agg #[.nilFunc, .func (.func 92) #[] #[]]) B3.out (Nat.le_refl _) M3.out (by rfl)
  obtain ⟨w5, h5, M5, B5⟩ := ins_step (w := w) 20 (.agg #[.func (.func 93) #[] #[], .nilFunc]) B4.out (Nat.le_refl _) M4.out (by rfl)
  obtain ⟨w6, h6, M6, B6⟩ := ins_step (w := w) 21 (.agg #[.func (.func 90) #[] #[], .nilFunc]) B5.out (Nat.le_refl _) M5.out (by rfl)
  obtain ⟨w7, h7, M7, B7⟩ := ins_step (w := w) 22 (.agg #[.func (.func 94) #[] #[], .nilFunc]) B6.out (Nat.le_refl _) M6.out (by rfl)
  obtain ⟨w8, h8, M8, B8⟩ := ins_step (w := w) 23 (.agg #[.func (.func 95) #[] #[], .nilFunc]) B7.out (Nat.le_refl _) M7.out (by rfl)
  go_enter Try.func45, Try.ntmps45
  go_wp2_with fail
  go_ret
  exact ⟨rfl, M8.out, B8.out⟩
end Go.Proofs.Ytpnigmcpifilmaa.P
