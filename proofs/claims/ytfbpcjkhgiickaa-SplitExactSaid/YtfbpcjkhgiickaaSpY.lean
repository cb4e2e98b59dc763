/- The arguments of laws that are numbers, and rows of them. No statement of the seed is proved here. -/
import Derived.Test.YtfbpcjkhgiickaaPayR
import Derived.Test.YtfbpcjkhgiickaaSpX
namespace Go.Proofs.Ytfbpcjkhgiickaa.Pay
open Go Go.RowKit
set_option linter.unusedVariables false
set_option linter.unusedSimpArgs false
set_option linter.unusedSectionVars false

theorem has_ints {g t u b1 b2 : Nat} {k : IntKind} {z : List D} {ds : List D} (h : HasT tab (g + 2) t ds) (ht : tab t = some ⟨.slice u, b1, b2, z⟩) {c1 c2 : Nat} {z2 : List D} (hu : tab u = some ⟨.int k, c1, c2, z2⟩) (hag : TI.ag ⟨.int k, c1, c2, z2⟩ = false := by rfl) :
    ∃ l : List Int, (∀ n ∈ l, k.min ≤ n ∧ n ≤ k.max) ∧ l.length ≤ maxLen ∧ ds = [.list c1 (l.map (.int k))] := by
  unfold HasT at h
  rw [ht] at h
  simp only [hu] at h
  obtain ⟨xs, rfl, hl, hx⟩ := h
  have key : ∀ {xs : List D}, (∀ x ∈ xs, ∃ n : Int, (k.min ≤ n ∧ n ≤ k.max) ∧ x = .int k n) → ∃ l : List Int, xs = l.map (.int k) ∧ ∀ n ∈ l, k.min ≤ n ∧ n ≤ k.max := by
    intro xs
    induction xs with
    | nil => intro _; exact ⟨[], rfl, by simp⟩
    | cons x xs ih =>
      intro h
      obtain ⟨n, h1, rfl⟩ := h x (by simp)
      obtain ⟨l, rfl, h2⟩ := ih fun y hy => h y (by simp [hy])
      exact ⟨n :: l, rfl, by simpa using ⟨h1, h2⟩⟩
  obtain ⟨l, rfl, h2⟩ := key fun x hx' => by
    obtain ⟨ys, h1, rfl⟩ := hx x hx'
    unfold HasT at h1
    rw [hu] at h1
    obtain ⟨n, rfl, h3, h4⟩ := h1
    refine ⟨n, ⟨h3, h4⟩, ?_⟩
    simp [elemD, hag]
  exact ⟨l, h2, by simpa using hl, rfl⟩
theorem has_num {g t : Nat} {k : IntKind} {ds : List D} {a b : Nat} {z : List D} (h : HasT tab (g + 1) t ds) (ht : tab t = some ⟨.int k, a, b, z⟩) : ∃ n, ds = [.int k n] ∧ k.min ≤ n ∧ n ≤ k.max := by
  unfold HasT at h
  rw [ht] at h
  exact h
theorem i64_in {n : Int} (h : IntKind.i64.min ≤ n ∧ n ≤ IntKind.i64.max) : in64 n := h
end Go.Proofs.Ytfbpcjkhgiickaa.Pay
