/- ElemOnes returns true at every input. -/
import Derived.Test.YtpnigmcpifilmaaB7
import Derived.Test.YtpnigmcpifilmaaB8
namespace Go.Proofs.Ytpnigmcpifilmaa.P
open Go.RowKit Go.Proofs.YtpnigmcpifilmaaW.PrintWords Go.Proofs.YtpnigmcpifilmaaW.PrintLast Go.Proofs.YtpnigmcpifilmaaW.PrintMore
set_option linter.unusedVariables false
theorem one_allI (op : Int) {a1 a2 S D : List Int} {E : Int} (i1 : allI a2) (h : elemOne op a1 a2 = ((S, D), E)) (hF : ∀ F, oneF op = some F → ∀ x, isI64 x → isI64 (F x).1) : allI D := by
  unfold elemOne at h
  cases ho : oneF op with
  | none => rw [ho] at h; simp only [Prod.mk.injEq] at h; rw [← h.1.2]; exact nil_allI
  | some F =>
    rw [ho] at h
    simp only at h
    split at h
    · rename_i ht
      have hl := ((tOk_iff _ _).1 ht).2
      unfold eachR eachD at h
      simp only [Prod.mk.injEq] at h
      rw [← h.1.2]
      split
      · intro x hx
        unfold dataG at hx
        obtain ⟨k, hk, rfl⟩ := List.mem_map.1 hx
        exact hF F ho _ (rdI i1 k (by have := List.mem_range.1 hk; omega))
      · exact nil_allI
    · simp only [Prod.mk.injEq] at h; rw [← h.1.2]; exact nil_allI
theorem neg_I64 (x : Int) (h : isI64 x) : isI64 (negF x).1 := by
  unfold negF toldF isI64 at *
  by_cases h1 : x = -9223372036854775808
  · subst h1; simp
  · rw [if_pos (by simpa using h1)]; simp only; omega
theorem sameB_self (s d : List Int) : sameB s d s d = true := by simp [sameB]
theorem ones_any (A0 : Option Addr) (c0 : Nat) (a1 : List Int) (A1 : Option Addr) (c1 : Nat) (a2 : List Int) (w : World)
    (r0 : Rd w (.slice A0 a1.length c0) a1) (r1 : Rd w (.slice A1 a2.length c1) a2) (i1 : allI a2) :
    Calls Try.prog 5 #[.agg #[.slice A0 a1.length c0, .slice A1 a2.length c1]] w fun e w' => e = .returned (.bool true) ∧ Below w.heap.size w w' := by
  cases g1 : fewB a1 a2
  · exact ones_bad1 A0 c0 a1 A1 c1 a2 w r0 r1 i1 g1
  cases g2 : tOk a1 a2
  · exact ones_bad2 A0 c0 a1 A1 c1 a2 w r0 r1 i1 g1 g2
  have hl := ((tOk_iff _ _).1 g2).2
  have hl64 := sizeS_le a1
  obtain ⟨⟨⟨sn, dn⟩, en⟩, hn⟩ : ∃ r, elemOne 20 a1 a2 = r := ⟨_, rfl⟩
  obtain ⟨⟨⟨sm, dm⟩, em⟩, hm⟩ : ∃ r, elemOne 20 sn dn = r := ⟨_, rfl⟩
  have hp : elemTwo 12 a1 a2 [] [4294967296] = ((a1, a2), 0) := by
    rw [two_unit (F := mulF) rfl 4294967296 g2]
    exact each_id g2 (fun k hk => mul_unit (rdI i1 k (by omega)))
  have hq : elemTwo 13 a1 a2 [] [4294967296] = ((a1, a2), 0) := by
    rw [two_unit (F := divF) rfl 4294967296 g2]
    exact each_id g2 (fun k hk => div_unit (rdI i1 k (by omega)))
  have hr := relu_ok g2
  have hs := relu_ok (relu_tOk g2)
  rw [relu_twice] at hs
  refine ones_good A0 c0 a1 A1 c1 a2 w r0 r1 i1 g1 g2 _ _ _ hp _ _ _ hq _ _ _ hn _ _ _ hm _ _ _ hr _ _ _ hs ?_ (relu_allI i1) (by omega) (by simp) (fun k hk => ?_) (sameB_self _ _) rfl (sameB_self _ _) rfl rfl rfl (sameB_self _ _) (fun h0 => ?_)
  · exact one_allI 20 i1 hn (fun F hF x hx => by cases hF; exact neg_I64 x hx)
  · rw [relu_rd _ _ hk]; omega
  · have := neg_neg i1 hn h0
    rw [hm] at this
    simp only [Prod.mk.injEq] at this
    obtain ⟨⟨h1, h2⟩, h3⟩ := this
    subst h1 h2
    exact ⟨h3, sameB_self _ _⟩
end Go.Proofs.Ytpnigmcpifilmaa.P
