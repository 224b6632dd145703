/- ReduceTwice returns true at every input. -/
import Derived.Test.YtpnigmcpifilmaaD11
namespace Go.Proofs.Ytpnigmcpifilmaa.P
open Go.RowKit Go.Proofs.YtpnigmcpifilmaaW.PrintWords Go.Proofs.YtpnigmcpifilmaaW.PrintLast Go.Proofs.YtpnigmcpifilmaaW.PrintMore
set_option linter.unusedVariables false
theorem rd_I64 {d : List Int} (h : allI d) (j : Int) : isI64 (rd d j) := by
  by_cases hj : j.toNat < d.length
  · exact h _ (by simp [rd, List.getD_eq_getElem?_getD, hj])
  · have : rd d j = 0 := by simp [rd, List.getD_eq_getElem?_getD, List.getElem?_eq_none (show d.length ≤ j.toNat by omega)]
    rw [this]; exact isI64_zero
theorem togR_allI {Fw Fe : Int → Int → Int × Int} {Ff : Int → Int} (hw : ∀ a b, isI64 a → isI64 b → isI64 (Fw a b).1) (he : ∀ a b, isI64 a → isI64 (Fe a b).1) (hf : ∀ a, isI64 a → isI64 (Ff a)) {s d : List Int} {ax : Int} (hd : allI d) {S D : List Int} {E : Int} (h : togR Fw Fe Ff s d ax = ((S, D), E)) : allI D := by
  have : allI (togR Fw Fe Ff s d ax).1.2 := by
    unfold togR
    split
    · split
      · refine eachR_allI (fun k => ?_) _
        unfold togG
        simp only
        split
        · exact he _ _ (foldN_I64 hw (hf _ (rd_I64 hd _)) _ (fun j _ => rd_I64 hd _))
        · exact isI64_zero
      · exact nil_allI
    · exact nil_allI
  rw [h] at this; exact this
theorem sum_allI {s d : List Int} {ax : Int} (hd : allI d) {S D : List Int} {E : Int} (h : sumR s d ax = ((S, D), E)) : allI D :=
  togR_allI (Fw := addF) (Fe := doneF) (Ff := noneF) (fun a b _ _ => add_I64 a b) (fun a b ha => ha) (fun _ _ => isI64_zero) hd h
theorem max_allI {s d : List Int} {ax : Int} (hd : allI d) {S D : List Int} {E : Int} (h : maxR s d ax = ((S, D), E)) : allI D :=
  togR_allI (Fw := mostF) (Fe := doneF) (Ff := id) most_I64 (fun a b ha => ha) (fun _ h => h) hd h
theorem redTwice_any (A0 : Option Addr) (c0 : Nat) (a1 : List Int) (A1 : Option Addr) (c1 : Nat) (a2 : List Int) (w : World)
    (r0 : Rd w (.slice A0 a1.length c0) a1) (r1 : Rd w (.slice A1 a2.length c1) a2) (i1 : allI a2) :
    Calls Try.prog 10 #[.agg #[.slice A0 a1.length c0, .slice A1 a2.length c1]] w fun e w' => e = .returned (.bool true) ∧ Below w.heap.size w w' := by
  cases g1 : fewB a1 a2
  · exact twice_bad1 A0 c0 a1 A1 c1 a2 w r0 r1 i1 g1
  cases g2 : tOk a1 a2
  · exact twice_bad2 A0 c0 a1 A1 c1 a2 w r0 r1 i1 g1 g2
  by_cases g3 : a1.length = 2
  · have hl := ((tOk_iff _ _).1 g2).2
    have hl64 := sizeS_le a1
    obtain ⟨⟨⟨sa, da⟩, ea⟩, ha⟩ : ∃ r, sumR a1 a2 0 = r := ⟨_, rfl⟩
    obtain ⟨⟨⟨sb, db⟩, eb⟩, hb⟩ : ∃ r, sumR sa da 0 = r := ⟨_, rfl⟩
    obtain ⟨⟨⟨sc, dc⟩, ec⟩, hc⟩ : ∃ r, sumR a1 a2 1 = r := ⟨_, rfl⟩
    obtain ⟨⟨⟨sd, dd⟩, ed⟩, hd⟩ : ∃ r, sumR sc dc 0 = r := ⟨_, rfl⟩
    obtain ⟨⟨⟨sp, dp⟩, ep⟩, hp⟩ : ∃ r, maxR a1 a2 0 = r := ⟨_, rfl⟩
    obtain ⟨⟨⟨sq, dq⟩, eq⟩, hq⟩ : ∃ r, maxR sp dp 0 = r := ⟨_, rfl⟩
    obtain ⟨⟨⟨su, du⟩, eu⟩, hu⟩ : ∃ r, maxR a1 a2 1 = r := ⟨_, rfl⟩
    obtain ⟨⟨⟨sv, dv⟩, ev⟩, hv⟩ : ∃ r, maxR su du 0 = r := ⟨_, rfl⟩
    refine twice_good A0 c0 a1 A1 c1 a2 w r0 r1 i1 g1 g2 g3 _ _ _ ha _ _ _ hb _ _ _ hc _ _ _ hd _ _ _ hp _ _ _ hq _ _ _ hu _ _ _ hv (sum_allI i1 ha) (sum_allI i1 hc) (max_allI i1 hp) (max_allI i1 hu) (by omega) (fun hall => ?_)
    obtain ⟨D1, D2, T, m, n, rfl, k1, k2, k3, k4⟩ := twice_sum g2 g3 hall
    obtain ⟨M1, M2, U, m', n', he, k5, k6, k7, k8⟩ := twice_max g2 g3
    obtain ⟨rfl, rfl⟩ : m = m' ∧ n = n' := by simpa using he
    rw [ha] at k1
    simp only [Prod.mk.injEq] at k1
    obtain ⟨⟨rfl, rfl⟩, rfl⟩ := k1
    rw [hb] at k2
    simp only [Prod.mk.injEq] at k2
    obtain ⟨⟨rfl, rfl⟩, rfl⟩ := k2
    rw [hc] at k3
    simp only [Prod.mk.injEq] at k3
    obtain ⟨⟨rfl, rfl⟩, rfl⟩ := k3
    rw [hd] at k4
    simp only [Prod.mk.injEq] at k4
    obtain ⟨⟨rfl, rfl⟩, rfl⟩ := k4
    rw [hp] at k5
    simp only [Prod.mk.injEq] at k5
    obtain ⟨⟨rfl, rfl⟩, rfl⟩ := k5
    rw [hq] at k6
    simp only [Prod.mk.injEq] at k6
    obtain ⟨⟨rfl, rfl⟩, rfl⟩ := k6
    rw [hu] at k7
    simp only [Prod.mk.injEq] at k7
    obtain ⟨⟨rfl, rfl⟩, rfl⟩ := k7
    rw [hv] at k8
    simp only [Prod.mk.injEq] at k8
    obtain ⟨⟨rfl, rfl⟩, rfl⟩ := k8
    exact ⟨⟨rfl, rfl, rfl, rfl, rfl, rfl, rfl, rfl⟩, sameB_self _ _, sameB_self _ _, rfl⟩
  · exact twice_bad3 A0 c0 a1 A1 c1 a2 w r0 r1 i1 g1 g2 g3
end Go.Proofs.Ytpnigmcpifilmaa.P
