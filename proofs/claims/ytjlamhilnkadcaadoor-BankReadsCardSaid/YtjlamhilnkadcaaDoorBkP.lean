/- Law BankReads: its row over whatever its arguments are. No statement of the seed is proved here. -/
import Derived.Test.YtjlamhilnkadcaaDoorBkN
import Derived.Test.YtjlamhilnkadcaaDoorLdB
namespace Go.Proofs.YtjlamhilnkadcaaDoor.Pay
open Go Go.RowKit
set_option linter.unusedVariables false
theorem has_str {e : List D} (h : HasT tab 8 9 e) : ∃ s, e = [.str s] := by
  unfold HasT at h
  rw [tab_9] at h
  obtain ⟨s, h, _⟩ := h
  exact ⟨s, h⟩
theorem bankReads_row {w : World} {e0 : List D} {v0 : Value} {i0 : TI} (y0 : HasT tab 8 9 e0) (t0 : some i0 = tab 9) (z0 : DRel w (lt w) (elemD i0 e0) v0) (hG : GOk w (lt w)) :
    Calls Tryd.prog 4 #[v0] w fun e w' => e = .returned (.bool true) ∧ Below w.heap.size w w' := by
  rw [tab_9] at t0; cases t0
  obtain ⟨s, rfl⟩ := has_str y0
  refine WpF.law (bankReads_walk s) (fun r S h => h.1) (vs := [v0]) ?_ hG
  simp only [VRelL, VRel]
  exact ⟨v0, _, rfl, z0, rfl⟩
end Go.Proofs.YtjlamhilnkadcaaDoor.Pay
