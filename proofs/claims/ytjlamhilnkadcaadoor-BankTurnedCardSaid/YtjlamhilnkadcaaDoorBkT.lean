/- Laws BankWrites, BankLines, BankOrder, BankTurned: their rows over whatever their arguments are. No statement of the seed is proved here. -/
import Derived.Test.YtjlamhilnkadcaaDoorBkS
import Derived.Test.YtjlamhilnkadcaaDoorLdB
namespace Go.Proofs.YtjlamhilnkadcaaDoor.Pay
open Go Go.RowKit
set_option linter.unusedVariables false
theorem has_pm {g : Nat} {ds : List D} (h : HasT tab (g + 2) 44 ds) : ∃ p : Pm, ds = p.cs := by
  unfold HasT at h
  simp only [tab_44, Fs] at h
  obtain ⟨a, _, rfl, ha, b, _, rfl, hb, c, _, rfl, hc, rfl⟩ := h
  unfold HasT at ha hb hc
  simp only [tab_5] at ha
  simp only [tab_3] at hb hc
  obtain ⟨k, rfl, _⟩ := ha
  obtain ⟨n, rfl, _⟩ := hb
  obtain ⟨m, rfl, _⟩ := hc
  exact ⟨⟨k, n, m⟩, rfl⟩
theorem has_file {g : Nat} {ds : List D} (h : HasT tab (g + 4) 24 ds) : ∃ (per : Int) (l : List Pm), l.length ≤ maxLen ∧ ds = [dI per, encPm l] := by
  unfold HasT at h
  simp only [tab_24, Fs] at h
  obtain ⟨a, _, rfl, ha, b, _, rfl, hb, rfl⟩ := h
  unfold HasT at ha hb
  simp only [tab_3] at ha
  simp only [tab_22, tab_44] at hb
  obtain ⟨k, rfl, _⟩ := ha
  obtain ⟨xs, rfl, hl, hx⟩ := hb
  have key : ∀ {xs : List D}, (∀ x ∈ xs, ∃ o : Pm, x = o.enc) → ∃ l : List Pm, xs = l.map Pm.enc := by
    intro xs
    induction xs with
    | nil => intro _; exact ⟨[], rfl⟩
    | cons x xs ih =>
      intro h
      obtain ⟨o, rfl⟩ := h x (by simp)
      obtain ⟨l, rfl⟩ := ih fun y hy => h y (by simp [hy])
      exact ⟨o :: l, rfl⟩
  obtain ⟨l, rfl⟩ := key fun x hx' => by
    obtain ⟨ys, h1, rfl⟩ := hx x hx'
    obtain ⟨o, rfl⟩ := has_pm h1
    exact ⟨o, rfl⟩
  exact ⟨k, l, by simpa using hl, rfl⟩
theorem has_n {g t : Nat} {k : IntKind} {ds : List D} {a b : Nat} {z : List D} (h : HasT tab (g + 1) t ds) (ht : tab t = some ⟨.int k, a, b, z⟩) : ∃ n, ds = [.int k n] ∧ k.min ≤ n ∧ n ≤ k.max := by
  unfold HasT at h
  rw [ht] at h
  exact h
theorem has_b {g t : Nat} {ds : List D} {a b : Nat} {z : List D} (h : HasT tab (g + 1) t ds) (ht : tab t = some ⟨.bool, a, b, z⟩) : ∃ n, ds = [.bool n] := by
  unfold HasT at h
  rw [ht] at h
  exact h
theorem maxLen_le {n : Nat} (h : n ≤ maxLen) : n ≤ 9223372036854775807 := h
theorem bankWrites_row {w : World} {e0 : List D} {v0 : Value} {i0 : TI} (y0 : HasT tab 8 24 e0) (t0 : some i0 = tab 24) (z0 : DRel w (lt w) (elemD i0 e0) v0) (hG : GOk w (lt w)) :
    Calls Tryd.prog 3 #[v0] w fun e w' => e = .returned (.bool true) ∧ Below w.heap.size w w' := by
  rw [tab_24] at t0; cases t0
  obtain ⟨per, l, hl, rfl⟩ := has_file y0
  refine WpF.law (bankWrites_walk per l) (fun r S h => h.1) (vs := [v0]) ?_ hG
  simp only [VRelL, VRel]
  exact ⟨v0, _, rfl, z0, rfl⟩
theorem bankLines_row {w : World} {e0 : List D} {v0 : Value} {i0 : TI} (y0 : HasT tab 8 24 e0) (t0 : some i0 = tab 24) (z0 : DRel w (lt w) (elemD i0 e0) v0) (hG : GOk w (lt w)) :
    Calls Tryd.prog 6 #[v0] w fun e w' => e = .returned (.bool true) ∧ Below w.heap.size w w' := by
  rw [tab_24] at t0; cases t0
  obtain ⟨per, l, hl, rfl⟩ := has_file y0
  refine WpF.law (bankLines_walk per l (maxLen_le hl)) (fun r S h => h.1) (vs := [v0]) ?_ hG
  simp only [VRelL, VRel]
  exact ⟨v0, _, rfl, z0, rfl⟩
theorem bankOrder_row {w : World} {e0 e1 e2 : List D} {v0 v1 v2 : Value} {i0 i1 i2 : TI} (y0 : HasT tab 8 24 e0) (y1 : HasT tab 8 5 e1) (y2 : HasT tab 8 5 e2) (t0 : some i0 = tab 24) (t1 : some i1 = tab 5) (t2 : some i2 = tab 5)
    (z0 : DRel w (lt w) (elemD i0 e0) v0) (z1 : DRel w (lt w) (elemD i1 e1) v1) (z2 : DRel w (lt w) (elemD i2 e2) v2) (hG : GOk w (lt w)) :
    Calls Tryd.prog 7 #[v0, v1, v2] w fun e w' => e = .returned (.bool true) ∧ Below w.heap.size w w' := by
  rw [tab_24] at t0; cases t0
  rw [tab_5] at t1 t2; cases t1; cases t2
  obtain ⟨per, l, hl, rfl⟩ := has_file y0
  obtain ⟨i, rfl, hi0, hi1⟩ := has_n y1 tab_5
  obtain ⟨j, rfl, hj0, hj1⟩ := has_n y2 tab_5
  refine WpF.law (bankOrder_walk per l i j hi0 hi1 hj0 hj1 (maxLen_le hl)) (fun r S h => h.1) (vs := [v0, v1, v2]) ?_ hG
  simp only [VRelL, VRel]
  exact ⟨v0, _, rfl, z0, v1, _, rfl, z1, v2, _, rfl, z2, rfl⟩
theorem bankTurned_row {w : World} {e0 e1 e2 e3 : List D} {v0 v1 v2 v3 : Value} {i0 i1 i2 i3 : TI} (y0 : HasT tab 8 24 e0) (y1 : HasT tab 8 40 e1) (y2 : HasT tab 8 5 e2) (y3 : HasT tab 8 4 e3) (t0 : some i0 = tab 24) (t1 : some i1 = tab 40) (t2 : some i2 = tab 5) (t3 : some i3 = tab 4)
    (z0 : DRel w (lt w) (elemD i0 e0) v0) (z1 : DRel w (lt w) (elemD i1 e1) v1) (z2 : DRel w (lt w) (elemD i2 e2) v2) (z3 : DRel w (lt w) (elemD i3 e3) v3) (hG : GOk w (lt w)) :
    Calls Tryd.prog 5 #[v0, v1, v2, v3] w fun e w' => e = .returned (.bool true) ∧ Below w.heap.size w w' := by
  rw [tab_24] at t0; cases t0
  rw [tab_40] at t1; cases t1
  rw [tab_5] at t2; cases t2
  rw [tab_4] at t3; cases t3
  obtain ⟨per, l, hl, rfl⟩ := has_file y0
  obtain ⟨i, rfl, hi0, hi1⟩ := has_n y1 tab_40
  obtain ⟨j, rfl, hj0, hj1⟩ := has_n y2 tab_5
  obtain ⟨b, rfl⟩ := has_b y3 tab_4
  refine WpF.law (bankTurned_walk per l i j b hi0 hi1 hj0 hj1 (maxLen_le hl)) (fun r S h => h.1) (vs := [v0, v1, v2, v3]) ?_ hG
  simp only [VRelL, VRel]
  exact ⟨v0, _, rfl, z0, v1, _, rfl, z1, v2, _, rfl, z2, v3, _, rfl, z3, rfl⟩
end Go.Proofs.YtjlamhilnkadcaaDoor.Pay
