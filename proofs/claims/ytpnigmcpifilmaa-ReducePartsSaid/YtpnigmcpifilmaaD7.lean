/- Contract of slices.Insert of one number into a row of the call's own. -/
import Derived.Test.YtpnigmcpifilmaaD6
import Derived.Shelf.Spec.SlicesInsertGrow
namespace Go.Proofs.Ytpnigmcpifilmaa.P
open Go.RowKit Go.Shelf Go.Proofs.YtpnigmcpifilmaaW.PrintWords Go.Proofs.YtpnigmcpifilmaaW.PrintLast Go.Proofs.YtpnigmcpifilmaaW.PrintMore
set_option linter.unusedVariables false
set_option linter.unusedSimpArgs false
def insRen : Go.Shelf.Ren := ⟨fun | 21 => 76 | 27 => 108 | 28 => 109 | 35 => 116 | 39 => 121 | n => n, fun | 22 => 22 | 3 => 3 | 4 => 4 | 0 => 0 | n => n, fun | n => n⟩
theorem insLays : Go.Proofs.Lays2.n21 Try.prog insRen := {
  mixed := by kernel_rfl
  f21 := Try.func76.trans (congrArg some (by kernel_rfl))
  f27 := Try.func108.trans (congrArg some (by kernel_rfl))
  f28 := Try.func109.trans (congrArg some (by kernel_rfl))
  f35 := Try.func116.trans (congrArg some (by kernel_rfl))
  f39 := Try.func121.trans (congrArg some (by kernel_rfl))
  t0 := Try.underlying0
  a0 := Try.isAgg0
  z0 := Try.sizeOf0
  v0 := Try.zeroValue0
  t3 := Try.underlying3
  a3 := Try.isAgg3
  z3 := Try.sizeOf3
  v3 := Try.zeroValue3
  t4 := Try.underlying4
  a4 := Try.isAgg4
  z4 := Try.sizeOf4
  v4 := Try.zeroValue4
  t22 := Try.underlying22
  a22 := Try.isAgg22
  z22 := Try.sizeOf22
  v22 := Try.zeroValue22
  i3 := by kernel_rfl }
theorem own_of_cells {w : World} {B g c : Nat} {cur : Array Value} {s : List Int} (hg : B ≤ g) (h : w.heap[g]? = some (.cells cur 3 (0, 0))) (hs : s.length ≤ c) (hc : c ≤ maxLen) (hz : cur.size = c) (ht : cur.toList.take s.length = nums .i64 s) :
    w.ownsRow B 3 1 (.slice (some ⟨g, 0, none⟩) s.length c) s.length (nums .i64 s) :=
  ⟨by simp [nums], .inr ⟨g, c, cur, rfl, hg, h, hs, hc, by omega, by simpa using ht⟩⟩
def insL (s : List Int) (i : Nat) (x : Int) : List Int := s.take i ++ x :: s.drop i
theorem insL_len (s : List Int) (i : Nat) (x : Int) (h : i ≤ s.length) : (insL s i x).length = s.length + 1 := by simp [insL]; omega
theorem zeroCells_size (v : Value) (n : Nat) (h : v.cells.size = 1) : (Builtin.zeroCells v.cells n).size = n := by
  unfold Builtin.zeroCells; simp [h]
theorem ins_own {B c vb : Nat} {A : Option Addr} {s : List Int} (i : Nat) (x : Int) (w : World) (h : w.ownsRow B 3 1 (.slice A s.length c) s.length (nums .i64 s)) (hi : i ≤ s.length) (hsm : s.length ≤ 1000) (hB : B ≤ w.heap.size)
    (hv : w.heap[vb]? = some (.cells #[.int .i64 x] 3 (0, 0))) (hne : ∀ g, A = some ⟨g, 0, none⟩ → vb ≠ g) :
    Calls Try.prog 76 #[.slice A s.length c, .int .i64 (i : Nat), .slice (some ⟨vb, 0, none⟩) 1 1] w fun e w' => ∃ A' c', e = .returned (.slice A' (insL s i x).length c') ∧ w'.ownsRow B 3 1 (.slice A' (insL s i x).length c') (insL s i x).length (nums .i64 (insL s i x)) ∧ Below B w w' := by
  have m1 := own_max h
  have hlen := insL_len s i x hi
  have hvs : ∀ j v, [Value.int .i64 x][j]? = some v → w.cell? ⟨vb, 0 + j, none⟩ = some v := fun j v hj => by
    cases j with
    | zero => simp at hj; subst hj; exact (blk_cell hv 0).trans rfl
    | succ j => simp at hj
  have h1v : ∀ v ∈ [Value.int .i64 x], v.oneCell' = true := fun v hv => by rw [List.mem_singleton] at hv; subst hv; rfl
  have h1c : ∀ v ∈ nums .i64 s, v.oneCell' = true := fun v hv => by
    unfold nums at hv; obtain ⟨y, _, rfl⟩ := List.mem_map.1 hv; rfl
  have hmx : ∀ q : World, s.length + 1 ≤ grownCap q (s.length + 1) c 3 ∧ grownCap q (s.length + 1) c 3 ≤ maxLen := fun q => ⟨grownCap_ge _ _ _ _, grownCap_le_maxLen _ _ _ _ (by unfold maxLen; omega)⟩
  by_cases hroom : s.length + 1 ≤ c
  · -- there is room
    have hsome : ∃ g, A = some ⟨g, 0, none⟩ ∧ B ≤ g ∧ ∃ cur, w.heap[g]? = some (.cells cur 3 (0, 0)) ∧ cur.size = c ∧ cur.toList.take s.length = nums .i64 s := by
      rcases h.2 with ⟨k1, k2⟩ | ⟨g, cap, cur, k1, k2, k3, k4, k5, k6, k7⟩
      · simp only [Value.slice.injEq] at k1; omega
      · cases k1; exact ⟨g, rfl, k2, cur, k3, by omega, by simpa using k7⟩
    obtain ⟨g, rfl, hg, cur, hcur, hcz, hct⟩ := hsome
    have hvg := hne g rfl
    have hcell : ∀ j, j < c → ∃ v, w.cell? ⟨g, 0 + j, none⟩ = some v := fun j hj => by
      rw [Nat.zero_add]
      exact ⟨_, (blk_cell hcur j).trans (Array.getElem?_eq_getElem (by omega))⟩
    have hfz : ∀ j, w.frozen? ⟨g, 0 + j, none⟩ = false := fun j => by simp [World.frozen?, hcur]
    have hcs : ∀ j v, (nums .i64 s)[j]? = some v → w.cell? ⟨g, 0 + j, none⟩ = some v := fun j v hj => by
      rw [Nat.zero_add, blk_cell hcur j]
      have hjl : j < s.length := by
        have := (List.getElem?_eq_some_iff.1 hj).1; simpa [nums] using this
      rw [← hct, List.getElem?_take, if_pos hjl] at hj
      rw [← hj]; simp
    by_cases hin : i < s.length
    · have key := Any2.slices_Insert_int_shift insLays g 0 s.length c i vb 0 1 1 (nums .i64 s) [.int .i64 x] w hin (by omega) hroom m1.1 hvg (by simp [nums]) rfl hcs
        (fun j hj => by obtain ⟨v, hv⟩ := hcell j (by omega); rw [hv]; rfl) (fun j _ => hfz j) hvs h1c h1v 3 3 1 c (by simp [World.shape?, hv]) (by simp [World.shape?, hcur, hcz]) (by omega) (by simp [World.frozen?, hv]) (by simp [World.frozen?, hv])
      refine key.mono ?_
      rintro e w' ⟨rfl, rfl⟩
      have hd : (w.drew).heap[g]? = some (.cells cur 3 (0, 0)) := hcur
      obtain ⟨cur1, a1, a2, a3⟩ := setCells_row ((nums .i64 s).drop i) (0 + (i + 1)) w.drew cur hd (by simp [nums]; omega)
      obtain ⟨cur2, b1, b2, b3⟩ := setCells_row [Value.int .i64 x] (0 + i) _ cur1 a1 (by simp; omega)
      refine ⟨some ⟨g, 0, none⟩, c, by rw [hlen], ?_, ?_⟩
      · refine own_of_cells hg b1 (by omega) (by unfold maxLen; omega) (by omega) ?_
        rw [b3, a3, hlen]
        have e1 : cur.toList.take (0 + (i + 1)) = cur.toList.take (i + 1) := by rw [Nat.zero_add]
        have hcl : cur.toList.length = c := by simp [hcz]
        have e2 : cur.toList.take i = nums .i64 (s.take i) := by
          have := congrArg (List.take i) hct
          rw [List.take_take, Nat.min_eq_left (by omega)] at this
          rw [this]; simp [nums]
        simp only [Nat.zero_add, List.length_singleton]
        have hc1 : (cur.toList.take (i + 1)).length = i + 1 := by rw [List.length_take]; omega
        obtain ⟨T, hT⟩ : ∃ T, cur.toList.drop (i + 1 + ((nums .i64 s).drop i).length) = T := ⟨_, rfl⟩
        rw [hT]
        have h1 : (cur.toList.take (i + 1) ++ (nums .i64 s).drop i ++ T).take i = nums .i64 (s.take i) := by
          rw [List.append_assoc, List.take_append_of_le_length (by omega), List.take_take, Nat.min_eq_left (by omega), e2]
        have h2 : (cur.toList.take (i + 1) ++ (nums .i64 s).drop i ++ T).drop (i + 1) = (nums .i64 s).drop i ++ T := by
          rw [List.append_assoc, List.drop_append_of_le_length (by omega), List.drop_of_length_le (by omega), List.nil_append]
        rw [h1, h2]
        have e3 : nums .i64 (insL s i x) = nums .i64 (s.take i) ++ [Value.int .i64 x] ++ (nums .i64 s).drop i := by simp [insL, nums]
        rw [e3, ← List.append_assoc]
        rw [List.take_append_of_le_length (by simp [nums]; omega)]
        exact List.take_of_length_le (by simp [nums]; omega)
      · exact ((below_drew (Below.refl _ _)).trans (below_setCells_own hg _ _ _)).trans (below_setCells_own hg _ _ _)
    · obtain rfl : i = s.length := by omega
      have key := Any2.slices_Insert_int_end_room insLays g 0 s.length c vb 0 1 1 [.int .i64 x] w (by omega) hroom m1.1 rfl
        (fun j hj => by obtain ⟨v, hv⟩ := hcell (s.length + j) (by omega); rw [Nat.add_assoc, hv]; rfl) (fun j _ => by rw [Nat.add_assoc]; exact hfz _) hvs h1v
      refine key.mono ?_
      rintro e w' ⟨rfl, rfl⟩
      obtain ⟨cur2, b1, b2, b3⟩ := setCells_row [Value.int .i64 x] (0 + s.length) w cur hcur (by simp; omega)
      refine ⟨some ⟨g, 0, none⟩, c, by rw [hlen], ?_, below_setCells_own hg _ _ _⟩
      refine own_of_cells hg b1 (by omega) (by unfold maxLen; omega) (by omega) ?_
      rw [b3, hlen]
      simp only [Nat.zero_add, List.length_singleton]
      rw [hct, List.take_append_of_le_length (by simp [nums]), List.take_of_length_le (by simp [nums])]
      simp [insL, nums]
  · -- no room: a new row
    have hown : A = none ∨ ∃ g, A = some ⟨g, 0, none⟩ := by
      rcases h.2 with ⟨k1, k2⟩ | ⟨g, cap, cur, k1, k2, k3, k4, k5, k6, k7⟩
      · simp only [Value.slice.injEq] at k1; exact .inl k1.1
      · cases k1; exact .inr ⟨g, rfl⟩
    by_cases hin : i < s.length
    · obtain ⟨g, rfl, hg, _⟩ := own_some h (by omega)
      have hcs : ∀ j v, (nums .i64 s)[j]? = some v → w.cell? ⟨g, 0 + j, none⟩ = some v := fun j v hj => by
        have hc := h.cells (g := g) rfl j v hj
        rwa [add_plain, ← Nat.zero_add j] at hc
      have key := Any2.slices_Insert_int_grow insLays g 0 s.length c i vb 0 1 1 (nums .i64 s) [.int .i64 x] w hin (by omega) m1.2.2 (by omega) (by omega) (by simp [nums]) rfl hcs hvs h1c h1v
      refine key.mono ?_
      rintro e w' ⟨rfl, rfl⟩
      obtain ⟨gc, hgc⟩ : ∃ q, grownCap w (s.length + 1) c 3 = q := ⟨_, rfl⟩
      have hq := hmx w
      rw [hgc] at hq
      have hgc' : grownCap w (s.length + 1) c (insRen.t 3) = gc := hgc
      rw [hgc']
      obtain ⟨X, hX⟩ : ∃ X, ((List.take i (nums .i64 s)).toArray ++ Builtin.zeroCells (Value.int IntKind.i64 0).cells (s.length + 1 - i) ++ Builtin.zeroCells (Value.int IntKind.i64 0).cells (gc - (s.length + 1))) = X := ⟨_, rfl⟩
      have hXs : X.size = gc := by
        rw [← hX]
        simp only [Array.size_append, zeroCells_size _ _ (show (Value.int IntKind.i64 0).cells.size = 1 from rfl), List.size_toArray, List.length_take, nums_len]
        omega
      have hXt : X.toList.take i = nums .i64 (s.take i) := by
        rw [← hX]
        simp only [Array.toList_append, List.append_assoc]
        rw [List.take_append_of_le_length (by simp [nums]; omega)]
        simp [nums, List.take_take]
      rw [hX]
      have hd : (w.alloc (.cells X 3)).drew.heap[w.heap.size]? = some (.cells X 3 (0, 0)) := blk_new _ _
      obtain ⟨cur1, a1, a2, a3⟩ := setCells_row [Value.int .i64 x] i (w.alloc (.cells X 3)).drew X hd (by simp; omega)
      have a1' : ((w.alloc (.cells X 3)).drew.setCells w.heap.size i [Value.int .i64 x]).drew.heap[w.heap.size]? = some (.cells cur1 3 (0, 0)) := a1
      obtain ⟨cur2, b1, b2, b3⟩ := setCells_row ((nums .i64 s).drop i) (i + 1) _ cur1 a1' (by simp [nums]; omega)
      refine ⟨some ⟨w.heap.size, 0, none⟩, gc, by rw [hlen], ?_, ?_⟩
      · refine own_of_cells hB b1 (by omega) hq.2 (by omega) ?_
        have hXl : X.toList.length = gc := by simp [hXs]
        rw [b3, a3, hlen]
        simp only [List.length_singleton]
        rw [hXt]
        have e3 : nums .i64 (insL s i x) = nums .i64 (s.take i) ++ [Value.int .i64 x] ++ (nums .i64 s).drop i := by simp [insL, nums]
        have l1 : (nums .i64 (s.take i) ++ [Value.int .i64 x]).length = i + 1 := by simp [nums]; omega
        obtain ⟨T, hT⟩ : ∃ T, X.toList.drop (i + 1) = T := ⟨_, rfl⟩
        rw [hT]
        obtain ⟨T2, hT2⟩ : ∃ T2, (nums .i64 (s.take i) ++ [Value.int .i64 x] ++ T).drop (i + 1 + ((nums .i64 s).drop i).length) = T2 := ⟨_, rfl⟩
        rw [hT2]
        have h1 : (nums .i64 (s.take i) ++ [Value.int .i64 x] ++ T).take (i + 1) = nums .i64 (s.take i) ++ [Value.int .i64 x] := by
          rw [List.take_append_of_le_length (by omega), List.take_of_length_le (by omega)]
        rw [h1, e3]
        rw [List.take_append_of_le_length (by simp [nums]; omega)]
        exact List.take_of_length_le (by simp [nums]; omega)
      · exact ((((below_alloc (Below.refl _ _) _).mono hB).drew.trans (below_setCells_own hB _ _ _)).drew).trans (below_setCells_own hB _ _ _)
    · obtain rfl : i = s.length := by omega
      have key := Any2.slices_Insert_int_end_grow insLays A s.length c vb 0 1 1 (nums .i64 s) [.int .i64 x] w (by omega) m1.2.2 (by omega) (by omega) (by simp [nums]) rfl
        (fun hA => by subst hA; rcases h.2 with ⟨k1, k2⟩ | ⟨g, cap, cur, k1, _⟩; · exact k2
                      · cases k1)
        (fun a ha j v hj => by
          rcases hown with h' | ⟨g, h'⟩
          · rw [h'] at ha; cases ha
          · rw [h'] at ha; cases ha; subst h'
            exact h.cells (g := g) rfl j v hj) hvs h1v
      refine key.mono ?_
      rintro e w' ⟨rfl, rfl⟩
      obtain ⟨gc, hgc⟩ : ∃ q, grownCap w (s.length + 1) c 3 = q := ⟨_, rfl⟩
      have hq := hmx w
      rw [hgc] at hq
      have hgc' : grownCap w (s.length + 1) c (insRen.t 3) = gc := hgc
      rw [hgc']
      refine ⟨some ⟨w.heap.size, 0, none⟩, gc, by rw [hlen], ?_, ?_⟩
      · refine own_of_cells hB (blk_new _ _) (by omega) hq.2 ?_ ?_
        · simp only [Array.size_append, zeroCells_size _ _ (show (Value.int IntKind.i64 0).cells.size = 1 from rfl), List.size_toArray, List.length_append, nums_len, List.length_singleton]
          omega
        · rw [hlen]
          simp only [Array.toList_append, List.toList_toArray]
          rw [List.take_append_of_le_length (by simp [nums]), List.take_of_length_le (by simp [nums])]
          simp [insL, nums]
      · exact ((below_drew (Below.refl _ _)).alloc hB _)
end Go.Proofs.Ytpnigmcpifilmaa.P
