/- Contract of slices.Delete over a row of the call's own. -/
import Derived.Test.YtpnigmcpifilmaaD2
import Derived.Test.YtpnigmcpifilmaaShelf
namespace Go.Proofs.Ytpnigmcpifilmaa.P
open Go.RowKit Go.Shelf Go.Proofs.YtpnigmcpifilmaaW.PrintWords Go.Proofs.YtpnigmcpifilmaaW.PrintLast Go.Proofs.YtpnigmcpifilmaaW.PrintMore
set_option linter.unusedVariables false
set_option linter.unusedSimpArgs false
theorem nums_len (k : IntKind) (l : List Int) : (nums k l).length = l.length := by simp [nums]
theorem own_drewN {w : World} {B : Nat} {e : TypeId} {size n : Nat} {v : Value} {xs : List Value} (h : w.ownsRow B e size v n xs) (m : Nat) : (w.drewN m).ownsRow B e size v n xs := pw_own_below h (pw_below_drewN (Below.refl _ _) _)
theorem own_max {w : World} {B : Nat} {A : Option Addr} {n c : Nat} {s : List Int} (h : w.ownsRow B 3 1 (.slice A n c) s.length (nums .i64 s)) : c ≤ 9223372036854775807 ∧ n = s.length ∧ s.length ≤ c := by
  rcases h.2 with ⟨h1, h2⟩ | ⟨g, cap, cur, h1, h2, h3, h4, h5, h6, h7⟩
  · cases h1; omega
  · cases h1; unfold maxLen at h5; omega
theorem own_some {w : World} {B : Nat} {A : Option Addr} {n c : Nat} {s : List Int} (h : w.ownsRow B 3 1 (.slice A n c) s.length (nums .i64 s)) (hp : 0 < s.length) : ∃ g, A = some ⟨g, 0, none⟩ ∧ B ≤ g ∧ g < w.heap.size := by
  rcases h.2 with ⟨h1, h2⟩ | ⟨g, cap, cur, h1, h2, h3, h4, h5, h6, h7⟩
  · omega
  · cases h1
    exact ⟨g, rfl, h2, blk_lt h3⟩
/-- The cells of a row of the call's own, written anew. -/
theorem own_cells {w : World} {B g c : Nat} {s s' : List Int} (h : w.ownsRow B 3 1 (.slice (some ⟨g, 0, none⟩) s.length c) s.length (nums .i64 s)) (m : Nat) (t : List Int) (hl : s'.length + t.length = s.length) :
    (w.setCells g 0 ((s' ++ t).map (Value.int .i64))).ownsRow B 3 1 (.slice (some ⟨g, 0, none⟩) s'.length c) s'.length (nums .i64 s') := by
  rcases h.2 with ⟨h1, h2⟩ | ⟨g', cap, cur, h1, h2, h3, h4, h5, h6, h7⟩
  · cases h1
  · cases h1
    obtain ⟨cur', k1, k2, k3⟩ := setCells_row ((s' ++ t).map (Value.int .i64)) 0 w cur h3 (by simp; omega)
    refine ⟨by simp [nums], .inr ⟨g, c, cur', rfl, h2, k1, by omega, h5, by rw [k2, h6], ?_⟩⟩
    rw [k3]
    simp [nums, List.take_append]
theorem below_setCells_own {B g : Nat} (hg : B ≤ g) (vs : List Value) (o : Nat) (w : World) : Below B w (w.setCells g o vs) := by
  obtain ⟨h1, h2, h3, h4⟩ := setCells_same g vs o w
  exact ⟨h1, h2, h3, by omega, fun k hk => setCells_far vs o k (by omega)⟩
theorem del_own {B c : Nat} {A : Option Addr} {s : List Int} (a : Nat) (w : World) (h : w.ownsRow B 3 1 (.slice A s.length c) s.length (nums .i64 s)) (ha : a < s.length) :
    Calls Try.prog 102 #[.slice A s.length c, .int .i64 (a : Nat), .int .i64 ((a : Int) + 1)] w fun e w' => ∃ A' c', e = .returned (.slice A' (s.eraseIdx a).length c') ∧ w'.ownsRow B 3 1 (.slice A' (s.eraseIdx a).length c') (s.eraseIdx a).length (nums .i64 (s.eraseIdx a)) ∧ Below B w w' := by
  obtain ⟨m1, _, m2⟩ := own_max h
  obtain ⟨g, rfl, hg, _⟩ := own_some h (by omega)
  have hcell : ∀ j, j < s.length → w.cell? ⟨g, 0 + j, none⟩ = some (.int .i64 (s.getD j 0)) := fun j hj => by
    have := (own_at h (j : Int) (by omega) (by omega)).1
    rw [Nat.zero_add]; simpa [rd] using this
  have hfz : ∀ j, j < s.length → w.frozen? ⟨g, 0 + j, none⟩ = false := fun j hj => by
    have := (own_at h (j : Int) (by omega) (by omega)).2
    rw [Nat.zero_add]; simpa using this
  have key := Try.slices_Delete_int_cells g 0 s.length c a (a + 1) s w (Nat.le_refl _) m2 m1 (by omega) (by omega) hcell hfz
  rw [show ((a + 1 : Nat) : Int) = (a : Int) + 1 by omega] at key
  refine key.mono ?_
  rintro e w' ⟨rfl, q, rfl⟩
  have hlen : (s.eraseIdx a).length = s.length - (a + 1 - a) := by rw [List.length_eraseIdx]; simp [ha]
  have hsp : (s.take s.length).take a ++ (s.take s.length).drop (a + 1) = s.eraseIdx a := by
    rw [List.take_length, List.eraseIdx_eq_take_drop_succ]
  refine ⟨some ⟨g, 0, none⟩, c, by rw [hlen], ?_, ?_⟩
  · rw [hsp]
    exact own_cells (own_drewN h q) 0 (List.replicate (a + 1 - a) 0) (by simp; omega)
  · exact (pw_below_drewN (Below.refl _ _) q).trans (below_setCells_own hg _ _ _)
end Go.Proofs.Ytpnigmcpifilmaa.P
