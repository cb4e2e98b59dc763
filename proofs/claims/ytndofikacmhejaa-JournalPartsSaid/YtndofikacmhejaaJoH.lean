/- Law JournalTotals, as its row wants it. No statement of the seed is proved here. -/
import Derived.Test.YtndofikacmhejaaJoG
import Derived.Test.YtndofikacmhejaaPayR
namespace Go.Proofs.Ytndofikacmhejaa.Pay
open Go Go.Proofs Go.RowKit

theorem has_int {g t : Nat} {ds : List D} {a b : Nat} {z : List D} (h : HasT tab (g + 1) t ds) (ht : tab t = some ⟨.int .i64, a, b, z⟩) : ∃ n, ds = [dI n] ∧ inI n := by
  unfold HasT at h
  rw [ht] at h
  obtain ⟨n, h1, h2, h3⟩ := h
  exact ⟨n, h1, h2, h3⟩

theorem has_posting {g : Nat} {ds : List D} (h : HasT tab (g + 2) 34 ds) : ∃ p : Pst, Pst.ok p ∧ D.agg ds = p.enc := by
  unfold HasT at h
  simp only [tab_34, Fs] at h
  obtain ⟨a1, b1, rfl, h1, a2, b2, rfl, h2, a3, b3, rfl, h3, rfl⟩ := h
  obtain ⟨x, rfl, i1⟩ := has_int h1 tab_3
  obtain ⟨y, rfl, i2⟩ := has_int h2 tab_3
  obtain ⟨z, rfl, i3⟩ := has_int h3 tab_3
  exact ⟨⟨x, y, z⟩, ⟨i1, i2, i3⟩, rfl⟩

theorem list_of {α : Type} {enc : α → D} {ok : α → Prop} : ∀ {xs : List D}, (∀ x ∈ xs, ∃ p : α, ok p ∧ x = enc p) → ∃ l : List α, xs = l.map enc ∧ ∀ p ∈ l, ok p
  | [], _ => ⟨[], rfl, by simp⟩
  | x :: xs, h => by
    obtain ⟨p, h1, rfl⟩ := h x (by simp)
    obtain ⟨l, rfl, h2⟩ := list_of (xs := xs) fun y hy => h y (by simp [hy])
    exact ⟨p :: l, rfl, by simpa using ⟨h1, h2⟩⟩

theorem has_postings {g : Nat} {ds : List D} (h : HasT tab (g + 3) 22 ds) : ∃ l : List Pst, (∀ p ∈ l, Pst.ok p) ∧ ds = [encPs l] := by
  unfold HasT at h
  simp only [tab_22, tab_34] at h
  obtain ⟨xs, rfl, _, hx⟩ := h
  obtain ⟨l, rfl, hl⟩ := list_of (enc := Pst.enc) (ok := Pst.ok) fun x hx' => by
    obtain ⟨ys, h1, rfl⟩ := hx x hx'
    obtain ⟨p, h2, h3⟩ := has_posting h1
    exact ⟨p, h2, h3⟩
  exact ⟨l, hl, rfl⟩

section
variable {w : World}
theorem journalTotals_row {e0 e1 e2 : List D} {v0 v1 v2 : Value} {i0 i1 i2 : TI} (y0 : HasT tab 8 22 e0) (y1 : HasT tab 8 3 e1) (y2 : HasT tab 8 3 e2) (t0 : some i0 = tab 22) (t1 : some i1 = tab 3) (t2 : some i2 = tab 3)
    (z0 : DRel w (lt w) (elemD i0 e0) v0) (z1 : DRel w (lt w) (elemD i1 e1) v1) (z2 : DRel w (lt w) (elemD i2 e2) v2) :
    Calls Try.prog 3 #[v0, v1, v2] w fun e w' => e = .returned (.bool true) ∧ Below w.heap.size w w' := by
  rw [tab_22] at t0; cases t0
  rw [tab_3] at t1 t2; cases t1; cases t2
  obtain ⟨l, hl, rfl⟩ := has_postings y0
  obtain ⟨a, rfl, _⟩ := has_int y1 tab_3
  obtain ⟨b, rfl, _⟩ := has_int y2 tab_3
  refine WpF.law (jt_ok l a b hl) (fun r S h => h.1) (vs := [v0, v1, v2]) ?_
  simp only [VRelL, VRel]
  exact ⟨v0, _, rfl, z0, v1, _, rfl, z1, v2, _, rfl, z2, rfl⟩
end
end Go.Proofs.Ytndofikacmhejaa.Pay
