/- Law MasterClaims, as its row wants it. No statement of the seed is proved here. -/
import Derived.Test.YtndofikacmhejaaMaK
import Derived.Test.YtndofikacmhejaaMaI
namespace Go.Proofs.Ytndofikacmhejaa.Pay
open Go Go.RowKit
set_option linter.unusedVariables false
set_option linter.unusedSimpArgs false
section
variable {w : World}
theorem masterClaims_row {e0 : List D} {v0 : Value} {i0 : TI} (y0 : HasT tab 8 53 e0) (t0 : some i0 = tab 53) (z0 : DRel w (lt w) (elemD i0 e0) v0) :
    Calls Try.prog 9 #[v0] w fun e w' => e = .returned (.bool true) ∧ Below w.heap.size w w' := by
  rw [tab_53] at t0; cases t0
  obtain ⟨gs, hg, hl, rfl⟩ := has_ints y0 tab_53 tab_5
  refine WpF.law (claims_ok gs hg (by simpa [maxLen] using hl)) (fun r S h => h.1) (vs := [v0]) ?_
  simp only [VRelL, VRel]
  exact ⟨v0, _, rfl, z0, rfl⟩
end
end Go.Proofs.Ytndofikacmhejaa.Pay
