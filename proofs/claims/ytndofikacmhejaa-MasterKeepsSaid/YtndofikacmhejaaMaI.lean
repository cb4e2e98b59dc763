/- Law MasterLine, as its row wants it. No statement of the seed is proved here. -/
import Derived.Test.YtndofikacmhejaaMaH
import Derived.Test.YtndofikacmhejaaPayR
namespace Go.Proofs.Ytndofikacmhejaa.Pay
open Go Go.RowKit
set_option linter.unusedVariables false
set_option linter.unusedSimpArgs false

theorem has_ints {g t u b1 b2 : Nat} {k : IntKind} {z : List D} {ds : List D} (h : HasT tab (g + 2) t ds) (ht : tab t = some ⟨.slice u, b1, b2, z⟩) {c1 c2 : Nat} {z2 : List D} (hu : tab u = some ⟨.int k, c1, c2, z2⟩) (hag : TI.ag ⟨.int k, c1, c2, z2⟩ = false := by rfl) :
    ∃ l : List Int, (∀ n ∈ l, k.min ≤ n ∧ n ≤ k.max) ∧ l.length ≤ maxLen ∧ ds = [.list c1 (l.map (.int k))] := by
  unfold HasT at h
  rw [ht] at h
  simp only [hu] at h
  obtain ⟨xs, rfl, hl, hx⟩ := h
  have key : ∀ {xs : List D}, (∀ x ∈ xs, ∃ n : Int, (k.min ≤ n ∧ n ≤ k.max) ∧ x = .int k n) → ∃ l : List Int, xs = l.map (.int k) ∧ ∀ n ∈ l, k.min ≤ n ∧ n ≤ k.max := by
    intro xs
    induction xs with
    | nil => intro _; exact ⟨[], rfl, by simp⟩
    | cons x xs ih =>
      intro h
      obtain ⟨n, h1, rfl⟩ := h x (by simp)
      obtain ⟨l, rfl, h2⟩ := ih fun y hy => h y (by simp [hy])
      exact ⟨n :: l, rfl, by simpa using ⟨h1, h2⟩⟩
  obtain ⟨l, rfl, h2⟩ := key fun x hx' => by
    obtain ⟨ys, h1, rfl⟩ := hx x hx'
    unfold HasT at h1
    rw [hu] at h1
    obtain ⟨n, rfl, h3, h4⟩ := h1
    refine ⟨n, ⟨h3, h4⟩, ?_⟩
    simp [elemD, hag]
  exact ⟨l, h2, by simpa using hl, rfl⟩
theorem has_num {g t : Nat} {k : IntKind} {ds : List D} {a b : Nat} {z : List D} (h : HasT tab (g + 1) t ds) (ht : tab t = some ⟨.int k, a, b, z⟩) : ∃ n, ds = [.int k n] ∧ k.min ≤ n ∧ n ≤ k.max := by
  unfold HasT at h
  rw [ht] at h
  exact h

section
variable {w : World}
theorem masterLine_row {e0 e1 : List D} {v0 v1 : Value} {i0 i1 : TI} (y0 : HasT tab 8 53 e0) (y1 : HasT tab 8 54 e1) (t0 : some i0 = tab 53) (t1 : some i1 = tab 54)
    (z0 : DRel w (lt w) (elemD i0 e0) v0) (z1 : DRel w (lt w) (elemD i1 e1) v1) :
    Calls Try.prog 7 #[v0, v1] w fun e w' => e = .returned (.bool true) ∧ Below w.heap.size w w' := by
  rw [tab_53] at t0; cases t0
  rw [tab_54] at t1; cases t1
  obtain ⟨gs, hg, hl, rfl⟩ := has_ints y0 tab_53 tab_5
  obtain ⟨n, rfl, hn⟩ := has_num y1 tab_54
  refine WpF.law (line_ok gs hg n hn (by simpa [maxLen] using hl)) (fun r S h => h.1) (vs := [v0, v1]) ?_
  simp only [VRelL, VRel]
  exact ⟨v0, _, rfl, z0, v1, _, rfl, z1, rfl⟩
end
end Go.Proofs.Ytndofikacmhejaa.Pay
