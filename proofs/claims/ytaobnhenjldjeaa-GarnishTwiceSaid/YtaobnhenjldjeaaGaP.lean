/- More that is so of what orders are served. No statement of the seed is proved here. -/
import Derived.Test.YtaobnhenjldjeaaGaG
namespace Go.Proofs.Ytaobnhenjldjeaa.Pay
open Go Go.RowKit
set_option linter.unusedVariables false
set_option linter.unusedSimpArgs false
set_option linter.unusedSectionVars false

def insU (p : Int) : List Int → List Int
  | [] => [p]
  | x :: r => if p < x then p :: x :: r else if p = x then x :: r else x :: insU p r
theorem insU_mem (p : Int) : ∀ {l : List Int} {y : Int}, y ∈ insU p l ↔ y = p ∨ y ∈ l
  | [], y => by simp [insU]
  | x :: r, y => by
    unfold insU
    split
    · simp
    · split
      · rename_i h; subst h; simp
      · rw [List.mem_cons, insU_mem p, List.mem_cons]
        constructor
        · rintro (h | h | h) <;> simp [h]
        · rintro (h | h | h) <;> simp [h]
theorem insU_up (p : Int) : ∀ {l : List Int}, l.Pairwise (· < ·) → (insU p l).Pairwise (· < ·)
  | [], _ => by simp [insU]
  | x :: r, h => by
    obtain ⟨h1, h2⟩ := List.pairwise_cons.1 h
    unfold insU
    split
    · rename_i hp
      refine List.pairwise_cons.2 ⟨fun y hy => ?_, h⟩
      rcases List.mem_cons.1 hy with rfl | hy
      · exact hp
      · have := h1 y hy; omega
    · split
      · exact h
      · rename_i h3 h4
        refine List.pairwise_cons.2 ⟨fun y hy => ?_, insU_up p h2⟩
        rcases (insU_mem p).1 hy with rfl | hy
        · omega
        · exact h1 y hy
theorem prs_any (P : Nat → Int) (n : Nat) : ∃ ps, Prs P n ps := by
  have key : ∃ ps : List Int, ps.Pairwise (· < ·) ∧ ∀ p, p ∈ ps ↔ ∃ i, i < n ∧ P i = p := by
    induction n with
    | zero => exact ⟨[], by simp, fun p => by simp⟩
    | succ n ih =>
      obtain ⟨ps, h1, h2⟩ := ih
      refine ⟨insU (P n) ps, insU_up _ h1, fun p => ?_⟩
      rw [insU_mem, h2]
      constructor
      · rintro (rfl | ⟨i, hi, rfl⟩)
        · exact ⟨n, by omega, rfl⟩
        · exact ⟨i, by omega, rfl⟩
      · rintro ⟨i, hi, rfl⟩
        by_cases e : i = n
        · exact .inl (by rw [e])
        · exact .inr ⟨i, by omega, rfl⟩
  obtain ⟨ps, h1, h2⟩ := key
  exact ⟨ps, fun i j hi hj hij => List.pairwise_iff_getElem.1 h1 i j hi hj hij, fun i hi => (h2 _).2 ⟨i, hi, rfl⟩, fun p hp => (h2 p).1 hp⟩
theorem sumF_part {f : Nat → Int} {k n : Nat} (h : ∀ i, i < n → 0 ≤ f i) (hk : k ≤ n) : sumF f k ≤ sumF f n := by
  induction n with
  | zero => have : k = 0 := by omega
            subst this; exact Int.le_refl _
  | succ n ih =>
    by_cases e : k = n + 1
    · subst e; exact Int.le_refl _
    · have h1 := ih (fun i hi => h i (by omega)) (by omega)
      have h2 := h n (by omega)
      rw [sumF_step]; omega
theorem sumF_short {f g : Nat → Int} {n i : Nat} (h : ∀ i, i < n → f i ≤ g i) (hi : i < n) (hs : f i < g i) : sumF f n < sumF g n := by
  induction n with
  | zero => omega
  | succ n ih =>
    have h1 := sumF_le (n := n) fun i hi => h i (by omega)
    have h2 := h n (by omega)
    rw [sumF_step, sumF_step]
    by_cases e : i = n
    · subst e; omega
    · have := ih (fun i hi => h i (by omega)) (by omega)
      omega
section
variable {A : Int} {P W : Nat → Int} {n : Nat}
theorem out_total (g : GoodN A P W n) : sumF (outN A P W n) n = A - at0 (A - sumF W n) := by
  obtain ⟨ps, h⟩ := prs_any P n
  exact out_sum g h
theorem out_part (g : GoodN A P W n) {k : Nat} (hk : k ≤ n) : 0 ≤ sumF (outN A P W n) k ∧ sumF (outN A P W n) k ≤ A := by
  have h1 := sumF_part (fun i hi => (outN_le g hi).1) hk
  have h2 := out_total g
  have h3 := at0_pos (A - sumF W n)
  have h4 := sumF_pos (n := k) (f := outN A P W n) fun i hi => (outN_le g (by omega)).1
  omega
def alB (o W : Nat → Int) (k : Nat) : Bool := (List.range k).all fun i => decide (o i = W i)
theorem alB_step (o W : Nat → Int) (k : Nat) : alB o W (k + 1) = (alB o W k && decide (o k = W k)) := by
  unfold alB
  rw [List.range_succ, List.all_append]; simp
theorem alB_not (g : GoodN A P W n) (h : alB (outN A P W n) W n = false) : sumF (outN A P W n) n = A := by
  unfold alB at h
  rw [List.all_eq_false] at h
  obtain ⟨i, hi, hne⟩ := h
  have hi := List.mem_range.1 hi
  have h1 := (outN_le g hi).2
  have h2 := sumF_short (fun i hi => (outN_le g hi).2) hi (show outN A P W n i < W i by simp at hne; omega)
  have h3 := out_total g
  unfold at0 at h3
  split at h3 <;> omega
theorem low_all (g : GoodN A P W n) (p : Int) : lowS P W n p + (wN P W n p).sum ≤ sumF W n := by
  unfold lowS
  rw [wN_sum, ← sumF_add]
  refine sumF_le fun i hi => ?_
  have := g.w0 i hi
  by_cases h1 : P i < p
  · rw [if_pos h1, if_neg (by omega)]; omega
  · rw [if_neg h1]; split <;> omega
theorem low_pos (g : GoodN A P W n) (p : Int) : 0 ≤ lowS P W n p := sumF_pos fun i hi => by have := g.w0 i hi; split <;> omega
/-- With as much as all want. -/
theorem out_full (g : GoodN A P W n) (h : A = sumF W n) {i : Nat} (hi : i < n) : outN A P W n i = W i := by
  refine outN_all g hi ?_
  have := low_all g (P i)
  unfold thN at0
  split <;> omega
theorem out_zero (g : GoodN 0 P W n) {i : Nat} (hi : i < n) : outN 0 P W n i = 0 := by
  have h1 := outN_le g hi
  have h2 := outN_none g hi (by have := low_pos g (P i); unfold thN at0; split <;> omega)
  omega
/-- Alone in their priorities, with more there is nobody has less. -/
theorem out_more {B : Int} (g : GoodN A P W n) (g' : GoodN B P W n) (hAB : A ≤ B) {i : Nat} (hi : i < n) (h : ∀ j, j < n → j ≠ i → P j ≠ P i) : outN A P W n i ≤ outN B P W n i := by
  rw [outN_alone g hi h, outN_alone g' hi h]
  have : thN A P W n (P i) ≤ thN B P W n (P i) := by
    unfold thN at0
    split <;> split <;> omega
  split <;> split <;> omega
end
theorem sumF_rev (f : Nat → Int) : ∀ n : Nat, sumF (fun i => f (n - 1 - i)) n = sumF f n := by
  have key : ∀ n m : Nat, n ≤ m → sumF (fun i => f (m - 1 - i)) n + sumF f (m - n) = sumF f m := fun n m => by
    induction n with
    | zero => intro _; simp [sumF_zero]
    | succ n ih =>
      intro h
      have h1 := ih (by omega)
      have h2 := sumF_step f (m - n - 1)
      rw [show m - n - 1 + 1 = m - n by omega] at h2
      rw [sumF_step, show m - (n + 1) = m - n - 1 by omega, show m - 1 - n = m - n - 1 by omega]
      omega
  intro n
  have := key n n (Nat.le_refl _)
  rw [Nat.sub_self, sumF_zero] at this
  omega
end Go.Proofs.Ytaobnhenjldjeaa.Pay
