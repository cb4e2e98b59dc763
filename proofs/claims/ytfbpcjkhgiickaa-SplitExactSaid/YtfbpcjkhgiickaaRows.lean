/-
  No cell of these rows narrows 'for every input' (looked for: loops, veiled, ifaces, maps, wideKeys, modest, calm, conditions, laid).
  DERIVED. THE GIVEN ROWS OF THIS SEAT. 5 by the template 'for every input the law returns true; each argument reads behind the call as it read before'; 0 by the template 'total and deterministic' (their statements: YtfbpcjkhgiickaaTotals.lean).
  GIVEN WITH THE SEED: the statements are not yours to turn. If you find one false, say at which input.
  Laid BY PROGRAM, IN A SANDBOX (cutbox-rows.mjs): the forced cells as the released guide's own fill.sh prints them over the translation 1c9d3b4a370d421a… (all of the seat's roots in one cut). By AI agents, Wed Nov 11 2026. No macro, syntax, notation, axiom, sorry.
-/
import Derived.Test.YtfbpcjkhgiickaaChecked
import GoSem.Claim
import GoSem.ClaimJoined
import GoSem.ClaimMapViews
import Derived.JoinedTies
import Derived.KernelRfl
namespace Go.Proofs.Ytfbpcjkhgiickaa
/- THE CELL 'sum', in the pinned program and in every row, IS THE sha256 OF THE DUMP (.gsa) THAT YtfbpcjkhgiickaaProg.lean LOADS. Nothing in Lean hashes anything: it is a label: what it is worth is what the hold of that sum in a sandbox is worth. -/
noncomputable def Try.pinned : Pinned := { name := "ytfbpcjkhgiickaa", sum := "1c9d3b4a370d421a71eef27cf13355222c172181e8970de3d70ae2815d681fee", checked := Try.checked }
namespace Rows
def none {H : Type} : Left H := { results := [], args := [] }

/-- 'paymasterlaw04.SplitExact': WHATEVER THE INPUT: true; the input reads as it did. -/
def splitExactSpec : ChangeSpec := { name := "splitExact", fn := fun _ => fun
  | [d1, d2, d3] => { results := [.lit (.bool true)], args := [d1, d2, d3] }
  | _ => none }
def splitExactRow : OpenClaim := { program := "ytfbpcjkhgiickaa", sum := "1c9d3b4a370d421a71eef27cf13355222c172181e8970de3d70ae2815d681fee", func := "paymaster/paymasterlaw04.SplitExact", spec := "splitExact", unfollowed := true, recurses := true, named := ["math/bits.divideError", "math/bits.overflowError"], apart := false }
def SplitExactSaid : Prop := splitExactRow.holds Try.pinned (OpenSpec.ofChange splitExactSpec)

/-- ITS FALSE NEIGHBOUR: 'it returns false'. Refute it at one input. -/
def splitExactWrong : ChangeSpec := { name := "splitExact", fn := fun _ => fun
  | [d1, d2, d3] => { results := [.lit (.bool false)], args := [d1, d2, d3] }
  | _ => none }
def SplitExactWrongFalsely : Prop := splitExactRow.holds Try.pinned (OpenSpec.ofChange splitExactWrong)

/-- 'paymasterlaw04.SplitWhole': WHATEVER THE INPUT: true; the input reads as it did. -/
def splitWholeSpec : ChangeSpec := { name := "splitWhole", fn := fun _ => fun
  | [d1, d2] => { results := [.lit (.bool true)], args := [d1, d2] }
  | _ => none }
def splitWholeRow : OpenClaim := { program := "ytfbpcjkhgiickaa", sum := "1c9d3b4a370d421a71eef27cf13355222c172181e8970de3d70ae2815d681fee", func := "paymaster/paymasterlaw04.SplitWhole", spec := "splitWhole", unfollowed := true, recurses := true, named := ["math/bits.divideError", "math/bits.overflowError"], apart := false }
def SplitWholeSaid : Prop := splitWholeRow.holds Try.pinned (OpenSpec.ofChange splitWholeSpec)

/-- ITS FALSE NEIGHBOUR: 'it returns false'. Refute it at one input. -/
def splitWholeWrong : ChangeSpec := { name := "splitWhole", fn := fun _ => fun
  | [d1, d2] => { results := [.lit (.bool false)], args := [d1, d2] }
  | _ => none }
def SplitWholeWrongFalsely : Prop := splitWholeRow.holds Try.pinned (OpenSpec.ofChange splitWholeWrong)

/-- 'paymasterlaw04.SplitEven': WHATEVER THE INPUT: true; the input reads as it did. -/
def splitEvenSpec : ChangeSpec := { name := "splitEven", fn := fun _ => fun
  | [d1, d2, d3] => { results := [.lit (.bool true)], args := [d1, d2, d3] }
  | _ => none }
def splitEvenRow : OpenClaim := { program := "ytfbpcjkhgiickaa", sum := "1c9d3b4a370d421a71eef27cf13355222c172181e8970de3d70ae2815d681fee", func := "paymaster/paymasterlaw04.SplitEven", spec := "splitEven", unfollowed := true, recurses := true, named := ["math/bits.divideError", "math/bits.overflowError"], apart := false }
def SplitEvenSaid : Prop := splitEvenRow.holds Try.pinned (OpenSpec.ofChange splitEvenSpec)

/-- ITS FALSE NEIGHBOUR: 'it returns false'. Refute it at one input. -/
def splitEvenWrong : ChangeSpec := { name := "splitEven", fn := fun _ => fun
  | [d1, d2, d3] => { results := [.lit (.bool false)], args := [d1, d2, d3] }
  | _ => none }
def SplitEvenWrongFalsely : Prop := splitEvenRow.holds Try.pinned (OpenSpec.ofChange splitEvenWrong)

/-- 'paymasterlaw04.SplitMore': WHATEVER THE INPUT: true; the input reads as it did. -/
def splitMoreSpec : ChangeSpec := { name := "splitMore", fn := fun _ => fun
  | [d1, d2, d3] => { results := [.lit (.bool true)], args := [d1, d2, d3] }
  | _ => none }
def splitMoreRow : OpenClaim := { program := "ytfbpcjkhgiickaa", sum := "1c9d3b4a370d421a71eef27cf13355222c172181e8970de3d70ae2815d681fee", func := "paymaster/paymasterlaw04.SplitMore", spec := "splitMore", unfollowed := true, recurses := true, named := ["math/bits.divideError", "math/bits.overflowError"], apart := false }
def SplitMoreSaid : Prop := splitMoreRow.holds Try.pinned (OpenSpec.ofChange splitMoreSpec)

/-- ITS FALSE NEIGHBOUR: 'it returns false'. Refute it at one input. -/
def splitMoreWrong : ChangeSpec := { name := "splitMore", fn := fun _ => fun
  | [d1, d2, d3] => { results := [.lit (.bool false)], args := [d1, d2, d3] }
  | _ => none }
def SplitMoreWrongFalsely : Prop := splitMoreRow.holds Try.pinned (OpenSpec.ofChange splitMoreWrong)

/-- 'paymasterlaw04.SplitOne': WHATEVER THE INPUT: true; the input reads as it did. -/
def splitOneSpec : ChangeSpec := { name := "splitOne", fn := fun _ => fun
  | [d1, d2, d3, d4] => { results := [.lit (.bool true)], args := [d1, d2, d3, d4] }
  | _ => none }
def splitOneRow : OpenClaim := { program := "ytfbpcjkhgiickaa", sum := "1c9d3b4a370d421a71eef27cf13355222c172181e8970de3d70ae2815d681fee", func := "paymaster/paymasterlaw04.SplitOne", spec := "splitOne", unfollowed := true, recurses := true, named := ["math/bits.divideError", "math/bits.overflowError"], apart := false }
def SplitOneSaid : Prop := splitOneRow.holds Try.pinned (OpenSpec.ofChange splitOneSpec)

/-- ITS FALSE NEIGHBOUR: 'it returns false'. Refute it at one input. -/
def splitOneWrong : ChangeSpec := { name := "splitOne", fn := fun _ => fun
  | [d1, d2, d3, d4] => { results := [.lit (.bool false)], args := [d1, d2, d3, d4] }
  | _ => none }
def SplitOneWrongFalsely : Prop := splitOneRow.holds Try.pinned (OpenSpec.ofChange splitOneWrong)

/- THE SECOND FORM. 'bulk': how many values and letters a reading holds, each counted each time it is reached (what is shared counts as often as it is met; a slice's spare places count too). A statement '..UptoSaid' is the law's where the arguments, and the package variables that the reading takes, are together of bulk at most 1048576: NARROWER than '..Said'. Prove '..Said' where nothing that the law and all that it calls make is longer than what came in: it says more and counts as full. Else prove '..UptoSaid'. A law counts once. -/
mutual
def uptoBulk {H : Type} : DataW H → Nat
  | .lit (.string bytes) => bytes.length + 1
  | .lit _ => 1
  | .nil => 1
  | .ptr d => uptoBulk d + 1
  | .slice elems spare => uptoBulkAll elems + uptoBulkAll spare + 1
  | .agg parts => uptoBulkAll parts + 1
  | .iface _ d => uptoBulk d + 1
  | .map entries => uptoBulkEntries entries + 1
  | .held _ => 1
def uptoBulkAll {H : Type} : List (DataW H) → Nat
  | [] => 0
  | d :: r => uptoBulk d + uptoBulkAll r
def uptoBulkEntries {H : Type} : List (Lit × DataW H) → Nat
  | [] => 0
  | x :: r => uptoBulkEntry x + uptoBulkEntries r
def uptoBulkEntry {H : Type} : Lit × DataW H → Nat
  | (.string bytes, d) => bytes.length + uptoBulk d + 1
  | (_, d) => uptoBulk d + 1
 end
def uptoSmall : (H : Type) → List (DataW H) → Bool := fun _ ds => decide (uptoBulkAll ds ≤ 1048576)
def OpenSpec.upto (s : _root_.Go.ChangeSpec) : _root_.Go.OpenSpec := { _root_.Go.OpenSpec.ofChange s with cond := some uptoSmall }

/-- 'paymasterlaw04.SplitExact', WHERE WHAT IT READS IS OF BULK AT MOST 1048576: true; the input reads as it did. -/
def splitExactUptoRow : OpenClaim := { program := "ytfbpcjkhgiickaa", sum := "1c9d3b4a370d421a71eef27cf13355222c172181e8970de3d70ae2815d681fee", func := "paymaster/paymasterlaw04.SplitExact", spec := "splitExact", unfollowed := true, recurses := true, named := ["math/bits.divideError", "math/bits.overflowError"], apart := false, narrowed := true }
def SplitExactUptoSaid : Prop := splitExactUptoRow.holds Try.pinned (OpenSpec.upto splitExactSpec)

/-- 'paymasterlaw04.SplitWhole', WHERE WHAT IT READS IS OF BULK AT MOST 1048576: true; the input reads as it did. -/
def splitWholeUptoRow : OpenClaim := { program := "ytfbpcjkhgiickaa", sum := "1c9d3b4a370d421a71eef27cf13355222c172181e8970de3d70ae2815d681fee", func := "paymaster/paymasterlaw04.SplitWhole", spec := "splitWhole", unfollowed := true, recurses := true, named := ["math/bits.divideError", "math/bits.overflowError"], apart := false, narrowed := true }
def SplitWholeUptoSaid : Prop := splitWholeUptoRow.holds Try.pinned (OpenSpec.upto splitWholeSpec)

/-- 'paymasterlaw04.SplitEven', WHERE WHAT IT READS IS OF BULK AT MOST 1048576: true; the input reads as it did. -/
def splitEvenUptoRow : OpenClaim := { program := "ytfbpcjkhgiickaa", sum := "1c9d3b4a370d421a71eef27cf13355222c172181e8970de3d70ae2815d681fee", func := "paymaster/paymasterlaw04.SplitEven", spec := "splitEven", unfollowed := true, recurses := true, named := ["math/bits.divideError", "math/bits.overflowError"], apart := false, narrowed := true }
def SplitEvenUptoSaid : Prop := splitEvenUptoRow.holds Try.pinned (OpenSpec.upto splitEvenSpec)

/-- 'paymasterlaw04.SplitMore', WHERE WHAT IT READS IS OF BULK AT MOST 1048576: true; the input reads as it did. -/
def splitMoreUptoRow : OpenClaim := { program := "ytfbpcjkhgiickaa", sum := "1c9d3b4a370d421a71eef27cf13355222c172181e8970de3d70ae2815d681fee", func := "paymaster/paymasterlaw04.SplitMore", spec := "splitMore", unfollowed := true, recurses := true, named := ["math/bits.divideError", "math/bits.overflowError"], apart := false, narrowed := true }
def SplitMoreUptoSaid : Prop := splitMoreUptoRow.holds Try.pinned (OpenSpec.upto splitMoreSpec)

/-- 'paymasterlaw04.SplitOne', WHERE WHAT IT READS IS OF BULK AT MOST 1048576: true; the input reads as it did. -/
def splitOneUptoRow : OpenClaim := { program := "ytfbpcjkhgiickaa", sum := "1c9d3b4a370d421a71eef27cf13355222c172181e8970de3d70ae2815d681fee", func := "paymaster/paymasterlaw04.SplitOne", spec := "splitOne", unfollowed := true, recurses := true, named := ["math/bits.divideError", "math/bits.overflowError"], apart := false, narrowed := true }
def SplitOneUptoSaid : Prop := splitOneUptoRow.holds Try.pinned (OpenSpec.upto splitOneSpec)

end Rows
end Go.Proofs.Ytfbpcjkhgiickaa
