/- Contracts of the closures of elem.Two and elem.One. -/
import Derived.Test.YtpnigmcpifilmaaA11
import Derived.Deep.RegionHeld3
namespace Go.Proofs.Ytpnigmcpifilmaa.P
open Go.RowKit Go.Shelf Go.Proofs.YtpnigmcpifilmaaW.PrintWords Go.Proofs.YtpnigmcpifilmaaW.PrintLast Go.Proofs.YtpnigmcpifilmaaW.PrintMore
set_option linter.unusedVariables false
set_option linter.unusedSimpArgs false
/-! the closures of elem.Two and elem.One -/
theorem below_undrew {W w : World} (h : Below W.drew.heap.size W.drew w) : Below W.heap.size W w := ⟨h.os, h.tape, h.output, h.size, h.block⟩
set_option maxRecDepth 100000 in
theorem two1_any (f : Nat) (he : ∀ args w, (callFunc f args).run Try.prog w = .ok (.enter f args) w) (Kb Xb Yb : Nat) (ov sx sy : Value) (Ax Ay : Option Addr) (cx cy : Nat) (dx dy : List Int) (k : Nat) (F : Int → Int → Int × Int) (W : World)
    (hK : W.heap[Kb]? = some (.cells #[ov, .func (.func f) #[] #[]] 65 (0, 0)))
    (hX : W.heap[Xb]? = some (.cells #[sx, .slice Ax dx.length cx] 24 (0, 0))) (hY : W.heap[Yb]? = some (.cells #[sy, .slice Ay dy.length cy] 24 (0, 0)))
    (hrx : Kd.C (Kd.int .i64) W Ax dx.length dx) (hry : Kd.C (Kd.int .i64) W Ay dy.length dy) (hx : k < dx.length) (hy : k < dy.length) (hsmall : k < 1000)
    (hF : ∀ W', Calls Try.prog f #[.int .i64 (rd dx k), .int .i64 (rd dy k)] W' fun e w' => e = .returned (.tuple #[.int .i64 (F (rd dx k) (rd dy k)).1, .int .i64 (F (rd dx k) (rd dy k)).2]) ∧ Below W'.heap.size W' w') :
    Calls Try.prog 47 #[.int .i64 (k : Nat), .pointer (some ⟨Kb, 0, none⟩), .pointer (some ⟨Xb, 0, none⟩), .pointer (some ⟨Yb, 0, none⟩)] W fun e w' => e = .returned (.tuple #[.int .i64 (F (rd dx k) (rd dy k)).1, .int .i64 (F (rd dx k) (rd dy k)).2]) ∧ Below W.heap.size W w' := by
  obtain ⟨ax, rfl, hcx⟩ := Kd.at_int hrx (k : Int) (by omega) (by omega)
  obtain ⟨ay, rfl, hcy⟩ := Kd.at_int hry (k : Int) (by omega) (by omega)
  simp only [Int.toNat_natCast] at hcx hcy
  have q1 : W.cell? ⟨Kb, 1, none⟩ = some (.func (.func f) #[] #[]) := (blk_cell hK 1).trans rfl
  have q2 : W.cell? ⟨Xb, 1, none⟩ = some (.slice (some ax) dx.length cx) := (blk_cell hX 1).trans rfl
  have q3 : W.cell? ⟨Yb, 1, none⟩ = some (.slice (some ay) dy.length cy) := (blk_cell hY 1).trans rfl
  obtain ⟨x, hxe⟩ : ∃ x, rd dx k = x := ⟨_, rfl⟩
  obtain ⟨y, hye⟩ : ∃ x, rd dy k = x := ⟨_, rfl⟩
  rw [hxe] at hcx hF ⊢
  rw [hye] at hcy hF ⊢
  obtain ⟨r1, hr1⟩ : ∃ r, (F x y).1 = r := ⟨_, rfl⟩
  obtain ⟨r2, hr2⟩ : ∃ r, (F x y).2 = r := ⟨_, rfl⟩
  rw [hr1, hr2] at hF ⊢
  have HF := Aside0.mk hF
  clear hF hK hX hY hrx hry hxe hye hr1 hr2
  go_enter Try.func47, Try.ntmps47
  go_wp2_with fail
  go_region_held3 (fun w' => w'.cell? ⟨Kb, 1, none⟩ = some (.func (.func f) #[] #[]) ∧ w'.cell? ⟨Xb, 1, none⟩ = some (.slice (some ax) dx.length cx) ∧ w'.cell? ⟨Yb, 1, none⟩ = some (.slice (some ay) dy.length cy) ∧ w'.cell? (ax.add k) = some (.int .i64 x) ∧ w'.cell? (ay.add k) = some (.int .i64 y)) (first | (exact ⟨q1, q2, q3, hcx, hcy⟩) | (exact ⟨pw_cell_below (by assumption) (by assumption), pw_cell_below (by assumption) (by assumption), pw_cell_below (by assumption) (by assumption), pw_cell_below (by assumption) (by assumption), pw_cell_below (by assumption) (by assumption)⟩))
    (first | (refine (HF.out _).mono ?_; rintro e w2 ⟨rfl, hb⟩))
  have HB := Aside0.mk (below_undrew hb)
  clear hb
  go_wp2_with fail
  go_ret2
  exact ⟨rfl, HB.out⟩
set_option maxRecDepth 100000 in
theorem one1_any (f : Nat) (he : ∀ args w, (callFunc f args).run Try.prog w = .ok (.enter f args) w) (Kb Xb : Nat) (ov sx : Value) (Ax : Option Addr) (cx : Nat) (dx : List Int) (k : Nat) (F : Int → Int × Int) (W : World)
    (hK : W.heap[Kb]? = some (.cells #[.func (.func f) #[] #[], ov] 65 (0, 0)))
    (hX : W.heap[Xb]? = some (.cells #[sx, .slice Ax dx.length cx] 24 (0, 0)))
    (hrx : Kd.C (Kd.int .i64) W Ax dx.length dx) (hx : k < dx.length) (hsmall : k < 1000)
    (hF : ∀ W', Calls Try.prog f #[.int .i64 (rd dx k)] W' fun e w' => e = .returned (.tuple #[.int .i64 (F (rd dx k)).1, .int .i64 (F (rd dx k)).2]) ∧ Below W'.heap.size W' w') :
    Calls Try.prog 56 #[.int .i64 (k : Nat), .pointer (some ⟨Kb, 0, none⟩), .pointer (some ⟨Xb, 0, none⟩)] W fun e w' => e = .returned (.tuple #[.int .i64 (F (rd dx k)).1, .int .i64 (F (rd dx k)).2]) ∧ Below W.heap.size W w' := by
  obtain ⟨ax, rfl, hcx⟩ := Kd.at_int hrx (k : Int) (by omega) (by omega)
  simp only [Int.toNat_natCast] at hcx
  have q1 : W.cell? ⟨Kb, 0, none⟩ = some (.func (.func f) #[] #[]) := (blk_cell hK 0).trans rfl
  have q2 : W.cell? ⟨Xb, 1, none⟩ = some (.slice (some ax) dx.length cx) := (blk_cell hX 1).trans rfl
  obtain ⟨x, hxe⟩ : ∃ x, rd dx k = x := ⟨_, rfl⟩
  rw [hxe] at hcx hF ⊢
  obtain ⟨r1, hr1⟩ : ∃ r, (F x).1 = r := ⟨_, rfl⟩
  obtain ⟨r2, hr2⟩ : ∃ r, (F x).2 = r := ⟨_, rfl⟩
  rw [hr1, hr2] at hF ⊢
  have HF := Aside0.mk hF
  clear hF hK hX hrx hxe hr1 hr2
  go_enter Try.func56, Try.ntmps56
  go_wp2_with fail
  go_region_held3 (fun w' => w'.cell? ⟨Kb, 0, none⟩ = some (.func (.func f) #[] #[]) ∧ w'.cell? ⟨Xb, 1, none⟩ = some (.slice (some ax) dx.length cx) ∧ w'.cell? (ax.add k) = some (.int .i64 x)) (first | (exact ⟨q1, q2, hcx⟩) | (exact ⟨pw_cell_below (by assumption) (by assumption), pw_cell_below (by assumption) (by assumption), pw_cell_below (by assumption) (by assumption)⟩))
    (first | (refine (HF.out _).mono ?_; rintro e w2 ⟨rfl, hb⟩))
  have HB := Aside0.mk (below_undrew hb)
  clear hb
  go_wp2_with fail
  go_ret2
  exact ⟨rfl, HB.out⟩
end Go.Proofs.Ytpnigmcpifilmaa.P
