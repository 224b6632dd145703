/- Plain law: where a stretched tensor's numbers come from. -/
import Derived.Test.YtpnigmcpifilmaaA4
namespace Go.Proofs.Ytpnigmcpifilmaa.P
open Go.RowKit Go.Proofs.YtpnigmcpifilmaaW.PrintWords Go.Proofs.YtpnigmcpifilmaaW.PrintLast Go.Proofs.YtpnigmcpifilmaaW.PrintMore
set_option linter.unusedVariables false
set_option linter.unusedSimpArgs false
/-! which place of a stretched tensor holds which number -/
def fromR : List Int → List Int → Int → Int
  | a :: rs, g :: rg, p => (if 1 < a then p % g else 0) + a * fromR rs rg (p / g)
  | _, _, _ => 0
def fromS (s g : List Int) (p : Int) : Int := fromR s.reverse g.reverse p
def fitR : List Int → List Int → Prop
  | [], _ => True
  | _ :: _, [] => False
  | a :: rs, g :: rg => (a = 1 ∨ a = g) ∧ fitR rs rg
def stepsR : Int → List Int → List Int
  | _, [] => []
  | c, a :: rs => (if 1 < a then c else 0) :: stepsR (c * a) rs
def stepsL (s g : List Int) : List Int := List.replicate (g.length - s.length) 0 ++ (stepsR 1 s.reverse).reverse
def dotS : List Int → List Int → Int
  | a :: x, b :: y => a * b + dotS x y
  | _, _ => 0
def dotK (x y : List Int) : Nat → Int
  | 0 => 0
  | k + 1 => dotK x y k + rd x k * rd y k
theorem stepsR_length : ∀ (c : Int) (rs : List Int), (stepsR c rs).length = rs.length
  | _, [] => rfl
  | c, a :: rs => by simp [stepsR, stepsR_length _ rs]
theorem stepsL_length (s g : List Int) (h : s.length ≤ g.length) : (stepsL s g).length = g.length := by
  simp [stepsL, stepsR_length]; omega
theorem stepsR_at : ∀ (rs : List Int) (c : Int) (k : Nat), k < rs.length → (stepsR c rs).getD k 0 = if 1 < rs.getD k 1 then c * prod (rs.take k) else 0
  | [], c, k, h => by simp at h
  | a :: rs, c, 0, h => by simp [stepsR, prod]
  | a :: rs, c, k + 1, h => by
    have := stepsR_at rs (c * a) k (by simpa using h)
    simp only [stepsR, List.getD_cons_succ, List.take_succ_cons, prod]
    rw [this, Int.mul_assoc]
theorem steps_at (s g : List Int) (k : Nat) (hl : s.length ≤ g.length) (h : k < s.length) :
    (stepsL s g).getD ((stepsL s g).length - 1 - k) 0 = if 1 < s.reverse.getD k 1 then prod (s.reverse.take k) else 0 := by
  have := stepsR_at s.reverse 1 k (by simpa using h)
  rw [Int.one_mul] at this
  rw [← this, stepsL_length _ _ hl]
  simp only [stepsL, List.getD_eq_getElem?_getD]
  rw [List.getElem?_append_right (by simp; omega), List.length_replicate, List.getElem?_reverse (by rw [stepsR_length, List.length_reverse]; omega), stepsR_length, List.length_reverse]
  congr 2; omega
theorem steps_all (s g : List Int) (hl : s.length ≤ g.length) : List.replicate (g.length - s.length) 0 ++ (stepsL s g).drop (g.length - s.length) = stepsL s g := by
  rw [stepsL, List.drop_left' (by simp)]
theorem step_same (L : List Int) (k : Nat) (hk : k < L.length) (hx : L.getD (L.length - 1 - k) 0 = 0) :
    List.replicate (L.length - k) 0 ++ L.drop (L.length - k) = List.replicate (L.length - (k + 1)) 0 ++ L.drop (L.length - (k + 1)) := by
  rw [← join_step L k 0 hk hx]
  symm
  apply List.ext_getElem?
  intro j
  rw [List.getElem?_set]
  split
  · rename_i e
    subst e
    rw [if_pos (by simp; omega), List.getElem?_append_left (by simp; omega), List.getElem?_replicate, if_pos (by omega)]
  · rfl
theorem prod_rev (s : List Int) : prod s.reverse = prod s := by
  induction s with
  | nil => rfl
  | cons a s ih => rw [List.reverse_cons, prod_append, ih]; simp [prod, Int.mul_comm]
theorem prod_revtake (s : List Int) (h : shapeOk s = true) (k : Nat) : 1 ≤ prod (s.reverse.take k) ∧ prod (s.reverse.take k) ≤ 64 := by
  refine prod_take_le s.reverse ?_ k
  simp only [shapeOk, List.length_reverse, List.all_reverse, prod_rev]; exact h
theorem prod_take_succ (rs : List Int) (k : Nat) (h : k < rs.length) : prod (rs.take (k + 1)) = prod (rs.take k) * rs.getD k 1 := by
  rw [List.take_succ_eq_append_getElem h, prod_append]
  simp [prod, List.getD_eq_getElem?_getD, List.getElem?_eq_getElem h]
theorem dotS_append : ∀ (x y : List Int) (a b : Int), x.length = y.length → dotS (x ++ [a]) (y ++ [b]) = dotS x y + a * b
  | [], [], a, b, _ => by simp [dotS]
  | [], _ :: _, a, b, h => by simp at h
  | _ :: _, [], a, b, h => by simp at h
  | c :: x, d :: y, a, b, h => by
    have := dotS_append x y a b (by simpa using h)
    simp only [List.cons_append, dotS, this]; omega
theorem dotS_rev : ∀ (x y : List Int), x.length = y.length → dotS x.reverse y.reverse = dotS x y
  | [], [], _ => rfl
  | [], _ :: _, h => by simp at h
  | _ :: _, [], h => by simp at h
  | a :: x, b :: y, h => by
    have := dotS_rev x y (by simpa using h)
    rw [List.reverse_cons, List.reverse_cons, dotS_append _ _ _ _ (by simpa using h), this]; simp only [dotS]; omega
theorem dotK_eq (x y : List Int) (hl : x.length = y.length) : ∀ k, k ≤ x.length → dotK x y k = dotS (x.take k) (y.take k)
  | 0, _ => by simp [dotK, dotS]
  | k + 1, h => by
    rw [dotK, dotK_eq x y hl k (by omega), take_rd x k (by omega), take_rd y k (by omega), dotS_append _ _ _ _ (by simp; omega)]
theorem dotS_zero : ∀ (x : List Int) (n : Nat), dotS x (List.replicate n 0) = 0
  | [], n => by cases n <;> rfl
  | a :: x, 0 => rfl
  | a :: x, n + 1 => by simp only [List.replicate_succ, dotS, dotS_zero x n]; omega
theorem dot_from : ∀ (rs rg : List Int) (c p : Int) (n : Nat), rs.length ≤ rg.length → dotS (idxR rg p) (stepsR c rs ++ List.replicate n 0) = c * fromR rs rg p
  | [], rg, c, p, n, _ => by
    rw [stepsR, List.nil_append, dotS_zero]
    cases rg <;> simp [fromR]
  | a :: rs, [], c, p, n, h => by simp at h
  | a :: rs, g :: rg, c, p, n, h => by
    have := dot_from rs rg (c * a) (p / g) n (by simpa using h)
    simp only [idxR, stepsR, List.cons_append, dotS, this, fromR]
    rw [Int.mul_add, Int.mul_assoc]
    congr 1
    split
    · rw [Int.mul_comm]
    · simp
theorem dot_all (s g : List Int) (p : Int) (hl : s.length ≤ g.length) : dotK (idxL g p) (stepsL s g) g.length = fromS s g p := by
  have l1 := idxL_length g p
  have l2 := stepsL_length s g hl
  rw [dotK_eq _ _ (by omega) _ (by omega), List.take_of_length_le (by omega), List.take_of_length_le (by omega), ← dotS_rev _ _ (by omega)]
  have := dot_from s.reverse g.reverse 1 p (g.length - s.length) (by simpa using hl)
  rw [Int.one_mul] at this
  rw [fromS, ← this]
  simp [idxL, stepsL]
theorem idxR_bd : ∀ (rs : List Int) (p : Int), rs.all sideOk = true → 0 ≤ p → ∀ x ∈ idxR rs p, 0 ≤ x ∧ x ≤ 16
  | [], _, _, _ => by simp [idxR]
  | g :: rg, p, ha, hp => by
    simp only [List.all_cons, Bool.and_eq_true, sideOk, decide_eq_true_eq] at ha
    intro x hx
    simp only [idxR, List.mem_cons] at hx
    rcases hx with rfl | hx
    · have h1 := Int.emod_nonneg p (show g ≠ 0 by omega)
      have h2 := Int.emod_lt_of_pos p (show 0 < g by omega)
      omega
    · exact idxR_bd rg (p / g) (by simpa [sideOk] using ha.2) (Int.ediv_nonneg hp (by omega)) x hx
theorem rd_mem (l : List Int) (k : Nat) (h : k < l.length) : rd l k ∈ l := by
  simp [rd, h]
theorem idx_bd (s : List Int) (p : Int) (hs : shapeOk s = true) (hp : 0 ≤ p) (k : Nat) (h : k < s.length) : 0 ≤ rd (idxL s p) k ∧ rd (idxL s p) k ≤ 16 := by
  have hm := rd_mem (idxL s p) k (by rw [idxL_length]; exact h)
  exact idxR_bd s.reverse p (by rw [List.all_reverse]; exact (shapeOk_bd hs).2.1) hp _ (by simpa [idxL] using hm)
theorem steps_bd (s g : List Int) (hs : shapeOk s = true) (hl : s.length ≤ g.length) (k : Nat) (h : k < g.length) : 0 ≤ rd (stepsL s g) k ∧ rd (stepsL s g) k ≤ 64 := by
  have hm := rd_mem (stepsL s g) k (by rw [stepsL_length _ _ hl]; exact h)
  generalize rd (stepsL s g) k = x at hm
  simp only [stepsL, List.mem_append, List.mem_reverse] at hm
  rcases hm with hm | hm
  · have := List.eq_of_mem_replicate hm; omega
  · obtain ⟨j, hj, rfl⟩ := List.mem_iff_getElem.1 hm
    have hj' : j < s.reverse.length := by rw [stepsR_length] at hj; exact hj
    have := stepsR_at s.reverse 1 j hj'
    rw [List.getD_eq_getElem?_getD, List.getElem?_eq_getElem hj, Option.getD_some] at this
    rw [this, Int.one_mul]
    have := prod_revtake s hs j
    split <;> omega
theorem dotK_bd (s g : List Int) (p : Int) (hs : shapeOk s = true) (hg : shapeOk g = true) (hp : 0 ≤ p) (hl : s.length ≤ g.length) : ∀ k, k ≤ g.length → 0 ≤ dotK (idxL g p) (stepsL s g) k ∧ dotK (idxL g p) (stepsL s g) k ≤ k * 1024
  | 0, _ => by simp [dotK]
  | k + 1, h => by
    have ih := dotK_bd s g p hs hg hp hl k (by omega)
    have h1 := idx_bd g p hg hp k (by omega)
    have h2 := steps_bd s g hs hl k (by omega)
    have h3 : 0 ≤ rd (idxL g p) k * rd (stepsL s g) k := Int.mul_nonneg h1.1 h2.1
    have h4 : rd (idxL g p) k * rd (stepsL s g) k ≤ 16 * 64 := Int.mul_le_mul h1.2 h2.2 h2.1 (by omega)
    simp only [dotK]; push_cast; omega
/-- Where a number lies in the smaller tensor: within it. -/
theorem fromR_lt : ∀ (rs rg : List Int) (p : Int), fitR rs rg → rs.all sideOk = true → rg.all sideOk = true → 0 ≤ p → 0 ≤ fromR rs rg p ∧ fromR rs rg p < prod rs
  | [], rg, p, _, _, _, _ => by cases rg <;> simp [fromR, prod]
  | a :: rs, [], p, h, _, _, _ => h.elim
  | a :: rs, g :: rg, p, h, ha, hg, hp => by
    simp only [List.all_cons, Bool.and_eq_true] at ha hg
    have a1 : 1 ≤ a := by have := ha.1; simp only [sideOk, Bool.and_eq_true, decide_eq_true_eq] at this; omega
    have g1 : 1 ≤ g := by have := hg.1; simp only [sideOk, Bool.and_eq_true, decide_eq_true_eq] at this; omega
    have ih := fromR_lt rs rg (p / g) h.2 ha.2 hg.2 (Int.ediv_nonneg hp (by omega))
    have m1 := Int.emod_nonneg p (show g ≠ 0 by omega)
    have m2 := Int.emod_lt_of_pos p (show 0 < g by omega)
    have k1 : 0 ≤ a * fromR rs rg (p / g) := Int.mul_nonneg (by omega) ih.1
    have k2 : a * fromR rs rg (p / g) ≤ a * (prod rs - 1) := Int.mul_le_mul_of_nonneg_left (by omega) (by omega)
    rw [Int.mul_sub, Int.mul_one] at k2
    simp only [fromR, prod]
    rcases h.1 with h1 | h1
    · subst h1; simp only [show ¬ (1:Int) < 1 by omega, if_false]; omega
    · subst h1; split <;> omega
theorem fromS_lt (s g : List Int) (p : Int) (h : fitR s.reverse g.reverse) (hs : shapeOk s = true) (hg : shapeOk g = true) (hp : 0 ≤ p) : 0 ≤ fromS s g p ∧ fromS s g p < sizeS s := by
  have := fromR_lt s.reverse g.reverse p h (by rw [List.all_reverse]; exact (shapeOk_bd hs).2.1) (by rw [List.all_reverse]; exact (shapeOk_bd hg).2.1) hp
  rw [prod_rev, ← (shapeOk_bd hs).2.2.2.2] at this
  exact this
end Go.Proofs.Ytpnigmcpifilmaa.P
