/- The contracts in the form in which the statements' own code takes them. -/
import Derived.Test.YtpnigmcpifilmaaA16
namespace Go.Proofs.Ytpnigmcpifilmaa.P
open Go.RowKit Go.Shelf Go.Proofs.YtpnigmcpifilmaaW.PrintWords Go.Proofs.YtpnigmcpifilmaaW.PrintLast Go.Proofs.YtpnigmcpifilmaaW.PrintMore
set_option linter.unusedVariables false
set_option linter.unusedSimpArgs false
/-! the contracts in the form in which the statements' own code takes them -/
theorem Rd.c {w : World} {A : Option Addr} {c : Nat} {l : List Int} (h : Rd w (.slice A l.length c) l) : Kd.C (Kd.int .i64) w A l.length l ∧ l.length ≤ c := by
  obtain ⟨A', c', e, hc, hr⟩ := h
  cases e
  exact ⟨hr, hc⟩
def TOpen (w : World) (S D : List Int) (E : Int) (e : Ending) (w' : World) : Prop :=
  ∃ A c A' c', e = .returned (.tuple #[.agg #[.slice A S.length c, .slice A' D.length c'], .int .i64 E]) ∧ Rd w' (.slice A S.length c) S ∧ Rd w' (.slice A' D.length c') D ∧ Below w.heap.size w w'
theorem TPost.topen {w : World} {S D : List Int} {E : Int} {e : Ending} {w' : World} (h : TPost w ((S, D), E) e w') : TOpen w S D E e w' := by
  obtain ⟨v0, v1, rfl, h0, h1, hb⟩ := h
  obtain ⟨A, c, rfl, h2, h3⟩ := h0.rd
  obtain ⟨A', c', rfl, h4, h5⟩ := h1.rd
  exact ⟨A, c, A', c', rfl, ⟨A, c, rfl, h2, h3⟩, ⟨A', c', rfl, h4, h5⟩, hb⟩
def allI (l : List Int) : Prop := ∀ x ∈ l, isI64 x
theorem two_r (op : Int) {A0 : Option Addr} {c0 : Nat} {a1 : List Int} {A1 : Option Addr} {c1 : Nat} {a2 : List Int} {A2 : Option Addr} {c2 : Nat} {b1 : List Int} {A3 : Option Addr} {c3 : Nat} {b2 : List Int} {w : World} {S D : List Int} {E : Int} (h : elemTwo op a1 a2 b1 b2 = ((S, D), E))
    (r0 : Rd w (.slice A0 a1.length c0) a1) (r1 : Rd w (.slice A1 a2.length c1) a2) (r2 : Rd w (.slice A2 b1.length c2) b1) (r3 : Rd w (.slice A3 b2.length c3) b2) (i1 : allI a2) (i2 : allI b2) :
    Calls Try.prog 17 #[.int .i64 op, .agg #[.slice A0 a1.length c0, .slice A1 a2.length c1], .agg #[.slice A2 b1.length c2, .slice A3 b2.length c3]] w (TOpen w S D E) :=
  (two_any op A0 c0 a1 A1 c1 a2 A2 c2 b1 A3 c3 b2 w r0.c.1 r0.c.2 r1.c.1 i1 r2.c.1 r2.c.2 r3.c.1 i2).mono fun e w' hh => TPost.topen (by rw [← h]; exact hh)
theorem one_r (op : Int) {A0 : Option Addr} {c0 : Nat} {a1 : List Int} {A1 : Option Addr} {c1 : Nat} {a2 : List Int} {w : World} {S D : List Int} {E : Int} (h : elemOne op a1 a2 = ((S, D), E))
    (r0 : Rd w (.slice A0 a1.length c0) a1) (r1 : Rd w (.slice A1 a2.length c1) a2) (i1 : allI a2) :
    Calls Try.prog 22 #[.int .i64 op, .agg #[.slice A0 a1.length c0, .slice A1 a2.length c1]] w (TOpen w S D E) :=
  (one_any op A0 c0 a1 A1 c1 a2 w r0.c.1 r0.c.2 r1.c.1 i1).mono fun e w' hh => TPost.topen (by rw [← h]; exact hh)
def spreadT (a1 a2 s : List Int) : TR := if tOk a1 a2 then (if fitsS a1 s then ((s, spreadD a1 a2 s), 0) else (([], []), 20)) else (([], []), 30)
theorem spread_r {A0 : Option Addr} {c0 : Nat} {a1 : List Int} {A1 : Option Addr} {c1 : Nat} {a2 : List Int} {A2 : Option Addr} {c2 : Nat} {s : List Int} {w : World} {S D : List Int} {E : Int} (h : spreadT a1 a2 s = ((S, D), E))
    (r0 : Rd w (.slice A0 a1.length c0) a1) (r1 : Rd w (.slice A1 a2.length c1) a2) (r2 : Rd w (.slice A2 s.length c2) s) :
    Calls Try.prog 19 #[.agg #[.slice A0 a1.length c0, .slice A1 a2.length c1], .slice A2 s.length c2] w (TOpen w S D E) := by
  unfold spreadT at h
  by_cases ht : tOk a1 a2 = true
  · rw [if_pos ht] at h
    by_cases hf : fitsS a1 s = true
    · rw [if_pos hf] at h
      cases h
      obtain ⟨f1, f2, f3, f4⟩ := fits_parts hf
      refine (spread_ok A0 c0 a1 A1 c1 a2 A2 c2 s w r0.c.1 r0.c.2 r1.c.1 r2.c.1 r2.c.2 ht hf f4 f3 f2).mono ?_
      rintro e w' ⟨v0, v1, rfl, h0, h1, hb⟩
      obtain ⟨A, c, rfl, h2, h3⟩ := h0
      obtain ⟨A', c', rfl, h4, h5⟩ := h1
      exact ⟨A, c, A', c', rfl, ⟨A, c, rfl, h2, h3⟩, ⟨A', c', rfl, h4, h5⟩, hb⟩
    · rw [if_neg hf] at h
      cases h
      refine (spread_unfit A0 c0 a1 A1 c1 a2 A2 c2 s w r0.c.1 r0.c.2 r2.c.1 r2.c.2 ht (by simpa using hf)).mono ?_
      rintro e w' ⟨rfl, hb⟩
      exact ⟨none, 0, none, 0, rfl, Rd.nil _, Rd.nil _, hb⟩
  · rw [if_neg ht] at h
    cases h
    refine (spread_untrue A0 c0 a1 A1 c1 a2 A2 c2 s w r0.c.1 r0.c.2 r2.c.1 r2.c.2 (by simpa using ht)).mono ?_
    rintro e w' ⟨rfl, hb⟩
    exact ⟨none, 0, none, 0, rfl, Rd.nil _, Rd.nil _, hb⟩
def fullT (s : List Int) (n : Int) : TR := if shapeOk s then ((s, List.replicate (sizeS s) n), 0) else (([], []), 20)
theorem full_r {A0 : Option Addr} {c0 : Nat} {s : List Int} {n : Int} {w : World} {S D : List Int} {E : Int} (h : fullT s n = ((S, D), E)) (r0 : Rd w (.slice A0 s.length c0) s) :
    Calls Try.prog 18 #[.slice A0 s.length c0, .int .i64 n] w (TOpen w S D E) := by
  unfold fullT at h
  by_cases hs : shapeOk s = true
  · rw [if_pos hs] at h
    cases h
    refine (full_ok A0 c0 s n w r0.c.1 r0.c.2 hs).mono ?_
    rintro e w' ⟨v0, v1, B, rfl, _, _, h0, h1, hb⟩
    have h1' : Rd w' v1 (List.replicate (sizeS s) n) := Rd.of_own (base := B) (by simpa using h1)
    obtain ⟨A, c, rfl, h2, h3⟩ := h0 w' (fun _ _ _ => rfl)
    obtain ⟨A', c', rfl, h4, h5⟩ := h1'
    exact ⟨A, c, A', c', rfl, ⟨A, c, rfl, h2, h3⟩, ⟨A', c', rfl, h4, h5⟩, hb⟩
  · rw [if_neg hs] at h
    cases h
    refine (full_bad A0 c0 s n w r0.c.1 (by simpa using hs)).mono ?_
    rintro e w' ⟨rfl, hb⟩
    exact ⟨none, 0, none, 0, rfl, Rd.nil _, Rd.nil _, hb⟩
theorem same_r {A0 : Option Addr} {c0 : Nat} {s : List Int} {A1 : Option Addr} {c1 : Nat} {d : List Int} {A2 : Option Addr} {c2 : Nat} {s' : List Int} {A3 : Option Addr} {c3 : Nat} {d' : List Int} {w : World} {b : Bool} (h : sameB s d s' d' = b)
    (r0 : Rd w (.slice A0 s.length c0) s) (r1 : Rd w (.slice A1 d.length c1) d) (r2 : Rd w (.slice A2 s'.length c2) s') (r3 : Rd w (.slice A3 d'.length c3) d') :
    Calls Try.prog 20 #[.agg #[.slice A0 s.length c0, .slice A1 d.length c1], .agg #[.slice A2 s'.length c2, .slice A3 d'.length c3]] w fun e w' => e = .returned (.bool b) ∧ Below w.heap.size w w' := by
  subst h; exact same03_any A0 c0 s A1 c1 d A2 c2 s' A3 c3 d' w r0.c.1 r1.c.1 r2.c.1 r3.c.1
theorem same2_r {A0 : Option Addr} {c0 : Nat} {a : List Int} {A1 : Option Addr} {c1 : Nat} {b : List Int} {w : World} {x : Bool} (h : decide (a = b) = x) (r0 : Rd w (.slice A0 a.length c0) a) (r1 : Rd w (.slice A1 b.length c1) b) :
    Calls Try.prog 39 #[.slice A0 a.length c0, .slice A1 b.length c1] w fun e w' => e = .returned (.bool x) ∧ Below w.heap.size w w' := by
  subst h; exact same02_any A0 c0 a A1 c1 b w r0.c.1 r1.c.1
theorem tcheck_r {A0 : Option Addr} {c0 : Nat} {s : List Int} {A1 : Option Addr} {c1 : Nat} {d : List Int} {w : World} {b : Bool} (h : tOk s d = b) (r0 : Rd w (.slice A0 s.length c0) s) :
    Calls Try.prog 16 #[.agg #[.slice A0 s.length c0, .slice A1 d.length c1]] w fun e w' => e = .returned (.bool b) ∧ Below w.heap.size w w' := by
  subst h; exact tcheck_any A0 c0 s A1 c1 d w r0.c.1
theorem few_r {A0 : Option Addr} {c0 : Nat} {s : List Int} {A1 : Option Addr} {c1 : Nat} {d : List Int} {w : World} {b : Bool} (h : fewB s d = b) :
    Calls Try.prog 15 #[.agg #[.slice A0 s.length c0, .slice A1 d.length c1]] w fun e w' => e = .returned (.bool b) ∧ Below w.heap.size w w' := by
  subst h; exact few_any A0 c0 s A1 c1 d w
theorem rd_lit (W : World) (xs : List Int) (h : xs.length ≤ 1000) : Rd (W.alloc (.cells (nums .i64 xs).toArray 3)) (.slice (some ⟨W.heap.size, 0, none⟩) xs.length xs.length) xs :=
  Rd.of_own (own_lit W W.heap.size 3 .i64 xs (Nat.le_refl _) (by omega))
/-! what the calls of the head of the statements give -/
theorem aw1 : elemTwo 11 [2] [5, 1] [] [2] = (([2], [3, -1]), 0) := by decide +kernel
theorem aw2 : elemOne 20 [2] [5, 1] = (([2], [-5, -1]), 0) := by decide +kernel
theorem aw3 : elemOne 10 [2] [5, 1] = (([], []), 1) := by decide +kernel
theorem aw4 : elemTwo 20 [2] [5, 1] [] [2] = (([], []), 1) := by decide +kernel
theorem aw5 : elemTwo 13 [2] [5, 1] [] [0] = (([], []), 11) := by decide +kernel
theorem aw6 : elemOne 21 [2] [-5, -1] = (([2], [0, 0]), 0) := by decide +kernel
end Go.Proofs.Ytpnigmcpifilmaa.P
