/- The texts SpY, one behind the other. No statement of the seed is proved here. -/
import Derived.Test.YtlhmejigmokbhaaGreatDoorMgxPayR
import Derived.Test.YtlhmejigmokbhaaGreatDoorMgV
namespace Go.Proofs.YtlhmejigmokbhaaGreatDoor.Pay
open Go Go.RowKit
set_option linter.unusedVariables false
set_option linter.unusedSimpArgs false
set_option linter.unusedSectionVars false
theorem ld {g t:Nat} {k:IntKind} {ds:List D} {a b:Nat} {z:List D} (h:bU tab (g+1) t ds) (ht:tab t=some ⟨.int k,a,b,z⟩):∃n,ds=[.int k n]/\k.min<=n/\n<=k.max:=by
 unfold bU at h;rw[ht] at h;exact h
end Go.Proofs.YtlhmejigmokbhaaGreatDoor.Pay
