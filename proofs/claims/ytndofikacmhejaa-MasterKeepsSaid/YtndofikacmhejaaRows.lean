/-
  No cell of these rows narrows 'for every input' (looked for: loops, veiled, ifaces, maps, wideKeys, modest, calm, conditions, laid).
  DERIVED. THE GIVEN ROWS OF THIS SEAT. 9 by the template 'for every input the law returns true; each argument reads behind the call as it read before'; 0 by the template 'total and deterministic' (their statements: YtndofikacmhejaaTotals.lean).
  GIVEN WITH THE SEED: the statements are not yours to turn. If you find one false, say at which input.
  Laid BY PROGRAM, IN A SANDBOX (cutbox-rows.mjs): the forced cells as the released guide's own fill.sh prints them over the translation e2702c64814757b2… (all of the seat's roots in one cut). By AI agents, Wed Nov 11 2026. No macro, syntax, notation, axiom, sorry.
-/
import Derived.Test.YtndofikacmhejaaChecked
import GoSem.Claim
import GoSem.ClaimJoined
import GoSem.ClaimMapViews
import Derived.JoinedTies
import Derived.KernelRfl
namespace Go.Proofs.Ytndofikacmhejaa
/- THE CELL 'sum', in the pinned program and in every row, IS THE sha256 OF THE DUMP (.gsa) THAT YtndofikacmhejaaProg.lean LOADS. Nothing in Lean hashes anything: it is a label: what it is worth is what the hold of that sum in a sandbox is worth. -/
noncomputable def Try.pinned : Pinned := { name := "ytndofikacmhejaa", sum := "e2702c64814757b29a9521f238e2210ed7bd8d083d198786cac8e778b7fd75d5", checked := Try.checked }
namespace Rows
def none {H : Type} : Left H := { results := [], args := [] }

/-- 'paymasterlaw21.JournalTotals': WHATEVER THE INPUT: true; the input reads as it did. -/
def journalTotalsSpec : ChangeSpec := { name := "journalTotals", fn := fun _ => fun
  | [d1, d2, d3] => { results := [.lit (.bool true)], args := [d1, d2, d3] }
  | _ => none }
def journalTotalsRow : OpenClaim := { program := "ytndofikacmhejaa", sum := "e2702c64814757b29a9521f238e2210ed7bd8d083d198786cac8e778b7fd75d5", func := "paymaster/paymasterlaw21.JournalTotals", spec := "journalTotals", unfollowed := true, recurses := true, apart := false }
def JournalTotalsSaid : Prop := journalTotalsRow.holds Try.pinned (OpenSpec.ofChange journalTotalsSpec)

/-- ITS FALSE NEIGHBOUR: 'it returns false'. Refute it at one input. -/
def journalTotalsWrong : ChangeSpec := { name := "journalTotals", fn := fun _ => fun
  | [d1, d2, d3] => { results := [.lit (.bool false)], args := [d1, d2, d3] }
  | _ => none }
def JournalTotalsWrongFalsely : Prop := journalTotalsRow.holds Try.pinned (OpenSpec.ofChange journalTotalsWrong)

/-- 'paymasterlaw21.JournalBack': WHATEVER THE INPUT: true; the input reads as it did. -/
def journalBackSpec : ChangeSpec := { name := "journalBack", fn := fun _ => fun
  | [d1, d2] => { results := [.lit (.bool true)], args := [d1, d2] }
  | _ => none }
def journalBackRow : OpenClaim := { program := "ytndofikacmhejaa", sum := "e2702c64814757b29a9521f238e2210ed7bd8d083d198786cac8e778b7fd75d5", func := "paymaster/paymasterlaw21.JournalBack", spec := "journalBack", unfollowed := true, recurses := true, apart := false }
def JournalBackSaid : Prop := journalBackRow.holds Try.pinned (OpenSpec.ofChange journalBackSpec)

/-- ITS FALSE NEIGHBOUR: 'it returns false'. Refute it at one input. -/
def journalBackWrong : ChangeSpec := { name := "journalBack", fn := fun _ => fun
  | [d1, d2] => { results := [.lit (.bool false)], args := [d1, d2] }
  | _ => none }
def JournalBackWrongFalsely : Prop := journalBackRow.holds Try.pinned (OpenSpec.ofChange journalBackWrong)

/-- 'paymasterlaw21.JournalParts': WHATEVER THE INPUT: true; the input reads as it did. -/
def journalPartsSpec : ChangeSpec := { name := "journalParts", fn := fun _ => fun
  | [d1, d2, d3] => { results := [.lit (.bool true)], args := [d1, d2, d3] }
  | _ => none }
def journalPartsRow : OpenClaim := { program := "ytndofikacmhejaa", sum := "e2702c64814757b29a9521f238e2210ed7bd8d083d198786cac8e778b7fd75d5", func := "paymaster/paymasterlaw21.JournalParts", spec := "journalParts", unfollowed := true, recurses := true, apart := false }
def JournalPartsSaid : Prop := journalPartsRow.holds Try.pinned (OpenSpec.ofChange journalPartsSpec)

/-- ITS FALSE NEIGHBOUR: 'it returns false'. Refute it at one input. -/
def journalPartsWrong : ChangeSpec := { name := "journalParts", fn := fun _ => fun
  | [d1, d2, d3] => { results := [.lit (.bool false)], args := [d1, d2, d3] }
  | _ => none }
def JournalPartsWrongFalsely : Prop := journalPartsRow.holds Try.pinned (OpenSpec.ofChange journalPartsWrong)

/-- 'paymasterlaw21.JournalSides': WHATEVER THE INPUT: true; the input reads as it did. -/
def journalSidesSpec : ChangeSpec := { name := "journalSides", fn := fun _ => fun
  | [d] => { results := [.lit (.bool true)], args := [d] }
  | _ => none }
def journalSidesRow : OpenClaim := { program := "ytndofikacmhejaa", sum := "e2702c64814757b29a9521f238e2210ed7bd8d083d198786cac8e778b7fd75d5", func := "paymaster/paymasterlaw21.JournalSides", spec := "journalSides", unfollowed := true, recurses := true, apart := false }
def JournalSidesSaid : Prop := journalSidesRow.holds Try.pinned (OpenSpec.ofChange journalSidesSpec)

/-- ITS FALSE NEIGHBOUR: 'it returns false'. Refute it at one input. -/
def journalSidesWrong : ChangeSpec := { name := "journalSides", fn := fun _ => fun
  | [d] => { results := [.lit (.bool false)], args := [d] }
  | _ => none }
def JournalSidesWrongFalsely : Prop := journalSidesRow.holds Try.pinned (OpenSpec.ofChange journalSidesWrong)

/-- 'paymasterlaw13.MasterLine': WHATEVER THE INPUT: true; the input reads as it did. -/
def masterLineSpec : ChangeSpec := { name := "masterLine", fn := fun _ => fun
  | [d1, d2] => { results := [.lit (.bool true)], args := [d1, d2] }
  | _ => none }
def masterLineRow : OpenClaim := { program := "ytndofikacmhejaa", sum := "e2702c64814757b29a9521f238e2210ed7bd8d083d198786cac8e778b7fd75d5", func := "paymaster/paymasterlaw13.MasterLine", spec := "masterLine", inPlace := ["slices.overlaps[paymaster/master.Person]", "slices.overlaps[paymaster/master.Record]"], unfollowed := true, recurses := true, apart := false }
def MasterLineSaid : Prop := masterLineRow.holds Try.pinned (OpenSpec.ofChange masterLineSpec)

/-- ITS FALSE NEIGHBOUR: 'it returns false'. Refute it at one input. -/
def masterLineWrong : ChangeSpec := { name := "masterLine", fn := fun _ => fun
  | [d1, d2] => { results := [.lit (.bool false)], args := [d1, d2] }
  | _ => none }
def MasterLineWrongFalsely : Prop := masterLineRow.holds Try.pinned (OpenSpec.ofChange masterLineWrong)

/-- 'paymasterlaw13.MasterFull': WHATEVER THE INPUT: true; the input reads as it did. -/
def masterFullSpec : ChangeSpec := { name := "masterFull", fn := fun _ => fun
  | [d1, d2] => { results := [.lit (.bool true)], args := [d1, d2] }
  | _ => none }
def masterFullRow : OpenClaim := { program := "ytndofikacmhejaa", sum := "e2702c64814757b29a9521f238e2210ed7bd8d083d198786cac8e778b7fd75d5", func := "paymaster/paymasterlaw13.MasterFull", spec := "masterFull", inPlace := ["slices.overlaps[paymaster/master.Person]", "slices.overlaps[paymaster/master.Record]"], unfollowed := true, recurses := true, apart := false }
def MasterFullSaid : Prop := masterFullRow.holds Try.pinned (OpenSpec.ofChange masterFullSpec)

/-- ITS FALSE NEIGHBOUR: 'it returns false'. Refute it at one input. -/
def masterFullWrong : ChangeSpec := { name := "masterFull", fn := fun _ => fun
  | [d1, d2] => { results := [.lit (.bool false)], args := [d1, d2] }
  | _ => none }
def MasterFullWrongFalsely : Prop := masterFullRow.holds Try.pinned (OpenSpec.ofChange masterFullWrong)

/-- 'paymasterlaw13.MasterClaims': WHATEVER THE INPUT: true; the input reads as it did. -/
def masterClaimsSpec : ChangeSpec := { name := "masterClaims", fn := fun _ => fun
  | [d] => { results := [.lit (.bool true)], args := [d] }
  | _ => none }
def masterClaimsRow : OpenClaim := { program := "ytndofikacmhejaa", sum := "e2702c64814757b29a9521f238e2210ed7bd8d083d198786cac8e778b7fd75d5", func := "paymaster/paymasterlaw13.MasterClaims", spec := "masterClaims", inPlace := ["slices.overlaps[paymaster/master.Person]", "slices.overlaps[paymaster/master.Record]"], unfollowed := true, recurses := true, apart := false }
def MasterClaimsSaid : Prop := masterClaimsRow.holds Try.pinned (OpenSpec.ofChange masterClaimsSpec)

/-- ITS FALSE NEIGHBOUR: 'it returns false'. Refute it at one input. -/
def masterClaimsWrong : ChangeSpec := { name := "masterClaims", fn := fun _ => fun
  | [d] => { results := [.lit (.bool false)], args := [d] }
  | _ => none }
def MasterClaimsWrongFalsely : Prop := masterClaimsRow.holds Try.pinned (OpenSpec.ofChange masterClaimsWrong)

/-- 'paymasterlaw13.MasterStaff': WHATEVER THE INPUT: true; the input reads as it did. -/
def masterStaffSpec : ChangeSpec := { name := "masterStaff", fn := fun _ => fun
  | [d1, d2] => { results := [.lit (.bool true)], args := [d1, d2] }
  | _ => none }
def masterStaffRow : OpenClaim := { program := "ytndofikacmhejaa", sum := "e2702c64814757b29a9521f238e2210ed7bd8d083d198786cac8e778b7fd75d5", func := "paymaster/paymasterlaw13.MasterStaff", spec := "masterStaff", inPlace := ["slices.overlaps[paymaster/master.Person]", "slices.overlaps[paymaster/master.Record]"], unfollowed := true, recurses := true, apart := false }
def MasterStaffSaid : Prop := masterStaffRow.holds Try.pinned (OpenSpec.ofChange masterStaffSpec)

/-- ITS FALSE NEIGHBOUR: 'it returns false'. Refute it at one input. -/
def masterStaffWrong : ChangeSpec := { name := "masterStaff", fn := fun _ => fun
  | [d1, d2] => { results := [.lit (.bool false)], args := [d1, d2] }
  | _ => none }
def MasterStaffWrongFalsely : Prop := masterStaffRow.holds Try.pinned (OpenSpec.ofChange masterStaffWrong)

/-- 'paymasterlaw13.MasterKeeps': WHATEVER THE INPUT: true; the input reads as it did. -/
def masterKeepsSpec : ChangeSpec := { name := "masterKeeps", fn := fun _ => fun
  | [d1, d2, d3, d4] => { results := [.lit (.bool true)], args := [d1, d2, d3, d4] }
  | _ => none }
def masterKeepsRow : OpenClaim := { program := "ytndofikacmhejaa", sum := "e2702c64814757b29a9521f238e2210ed7bd8d083d198786cac8e778b7fd75d5", func := "paymaster/paymasterlaw13.MasterKeeps", spec := "masterKeeps", inPlace := ["slices.overlaps[paymaster/master.Person]", "slices.overlaps[paymaster/master.Record]"], unfollowed := true, recurses := true, apart := false }
def MasterKeepsSaid : Prop := masterKeepsRow.holds Try.pinned (OpenSpec.ofChange masterKeepsSpec)

/-- ITS FALSE NEIGHBOUR: 'it returns false'. Refute it at one input. -/
def masterKeepsWrong : ChangeSpec := { name := "masterKeeps", fn := fun _ => fun
  | [d1, d2, d3, d4] => { results := [.lit (.bool false)], args := [d1, d2, d3, d4] }
  | _ => none }
def MasterKeepsWrongFalsely : Prop := masterKeepsRow.holds Try.pinned (OpenSpec.ofChange masterKeepsWrong)

/- THE SECOND FORM. 'bulk': how many values and letters a reading holds, each counted each time it is reached (what is shared counts as often as it is met; a slice's spare places count too). A statement '..UptoSaid' is the law's where the arguments, and the package variables that the reading takes, are together of bulk at most 1048576: NARROWER than '..Said'. Prove '..Said' where nothing that the law and all that it calls make is longer than what came in: it says more and counts as full. Else prove '..UptoSaid'. A law counts once. -/
mutual
def uptoBulk {H : Type} : DataW H → Nat
  | .lit (.string bytes) => bytes.length + 1
  | .lit _ => 1
  | .nil => 1
  | .ptr d => uptoBulk d + 1
  | .slice elems spare => uptoBulkAll elems + uptoBulkAll spare + 1
  | .agg parts => uptoBulkAll parts + 1
  | .iface _ d => uptoBulk d + 1
  | .map entries => uptoBulkEntries entries + 1
  | .held _ => 1
def uptoBulkAll {H : Type} : List (DataW H) → Nat
  | [] => 0
  | d :: r => uptoBulk d + uptoBulkAll r
def uptoBulkEntries {H : Type} : List (Lit × DataW H) → Nat
  | [] => 0
  | x :: r => uptoBulkEntry x + uptoBulkEntries r
def uptoBulkEntry {H : Type} : Lit × DataW H → Nat
  | (.string bytes, d) => bytes.length + uptoBulk d + 1
  | (_, d) => uptoBulk d + 1
 end
def uptoSmall : (H : Type) → List (DataW H) → Bool := fun _ ds => decide (uptoBulkAll ds ≤ 1048576)
def OpenSpec.upto (s : _root_.Go.ChangeSpec) : _root_.Go.OpenSpec := { _root_.Go.OpenSpec.ofChange s with cond := some uptoSmall }

/-- 'paymasterlaw21.JournalTotals', WHERE WHAT IT READS IS OF BULK AT MOST 1048576: true; the input reads as it did. -/
def journalTotalsUptoRow : OpenClaim := { program := "ytndofikacmhejaa", sum := "e2702c64814757b29a9521f238e2210ed7bd8d083d198786cac8e778b7fd75d5", func := "paymaster/paymasterlaw21.JournalTotals", spec := "journalTotals", unfollowed := true, recurses := true, apart := false, narrowed := true }
def JournalTotalsUptoSaid : Prop := journalTotalsUptoRow.holds Try.pinned (OpenSpec.upto journalTotalsSpec)

/-- 'paymasterlaw21.JournalBack', WHERE WHAT IT READS IS OF BULK AT MOST 1048576: true; the input reads as it did. -/
def journalBackUptoRow : OpenClaim := { program := "ytndofikacmhejaa", sum := "e2702c64814757b29a9521f238e2210ed7bd8d083d198786cac8e778b7fd75d5", func := "paymaster/paymasterlaw21.JournalBack", spec := "journalBack", unfollowed := true, recurses := true, apart := false, narrowed := true }
def JournalBackUptoSaid : Prop := journalBackUptoRow.holds Try.pinned (OpenSpec.upto journalBackSpec)

/-- 'paymasterlaw21.JournalParts', WHERE WHAT IT READS IS OF BULK AT MOST 1048576: true; the input reads as it did. -/
def journalPartsUptoRow : OpenClaim := { program := "ytndofikacmhejaa", sum := "e2702c64814757b29a9521f238e2210ed7bd8d083d198786cac8e778b7fd75d5", func := "paymaster/paymasterlaw21.JournalParts", spec := "journalParts", unfollowed := true, recurses := true, apart := false, narrowed := true }
def JournalPartsUptoSaid : Prop := journalPartsUptoRow.holds Try.pinned (OpenSpec.upto journalPartsSpec)

/-- 'paymasterlaw21.JournalSides', WHERE WHAT IT READS IS OF BULK AT MOST 1048576: true; the input reads as it did. -/
def journalSidesUptoRow : OpenClaim := { program := "ytndofikacmhejaa", sum := "e2702c64814757b29a9521f238e2210ed7bd8d083d198786cac8e778b7fd75d5", func := "paymaster/paymasterlaw21.JournalSides", spec := "journalSides", unfollowed := true, recurses := true, apart := false, narrowed := true }
def JournalSidesUptoSaid : Prop := journalSidesUptoRow.holds Try.pinned (OpenSpec.upto journalSidesSpec)

/-- 'paymasterlaw13.MasterLine', WHERE WHAT IT READS IS OF BULK AT MOST 1048576: true; the input reads as it did. -/
def masterLineUptoRow : OpenClaim := { program := "ytndofikacmhejaa", sum := "e2702c64814757b29a9521f238e2210ed7bd8d083d198786cac8e778b7fd75d5", func := "paymaster/paymasterlaw13.MasterLine", spec := "masterLine", inPlace := ["slices.overlaps[paymaster/master.Person]", "slices.overlaps[paymaster/master.Record]"], unfollowed := true, recurses := true, apart := false, narrowed := true }
def MasterLineUptoSaid : Prop := masterLineUptoRow.holds Try.pinned (OpenSpec.upto masterLineSpec)

/-- 'paymasterlaw13.MasterFull', WHERE WHAT IT READS IS OF BULK AT MOST 1048576: true; the input reads as it did. -/
def masterFullUptoRow : OpenClaim := { program := "ytndofikacmhejaa", sum := "e2702c64814757b29a9521f238e2210ed7bd8d083d198786cac8e778b7fd75d5", func := "paymaster/paymasterlaw13.MasterFull", spec := "masterFull", inPlace := ["slices.overlaps[paymaster/master.Person]", "slices.overlaps[paymaster/master.Record]"], unfollowed := true, recurses := true, apart := false, narrowed := true }
def MasterFullUptoSaid : Prop := masterFullUptoRow.holds Try.pinned (OpenSpec.upto masterFullSpec)

/-- 'paymasterlaw13.MasterClaims', WHERE WHAT IT READS IS OF BULK AT MOST 1048576: true; the input reads as it did. -/
def masterClaimsUptoRow : OpenClaim := { program := "ytndofikacmhejaa", sum := "e2702c64814757b29a9521f238e2210ed7bd8d083d198786cac8e778b7fd75d5", func := "paymaster/paymasterlaw13.MasterClaims", spec := "masterClaims", inPlace := ["slices.overlaps[paymaster/master.Person]", "slices.overlaps[paymaster/master.Record]"], unfollowed := true, recurses := true, apart := false, narrowed := true }
def MasterClaimsUptoSaid : Prop := masterClaimsUptoRow.holds Try.pinned (OpenSpec.upto masterClaimsSpec)

/-- 'paymasterlaw13.MasterStaff', WHERE WHAT IT READS IS OF BULK AT MOST 1048576: true; the input reads as it did. -/
def masterStaffUptoRow : OpenClaim := { program := "ytndofikacmhejaa", sum := "e2702c64814757b29a9521f238e2210ed7bd8d083d198786cac8e778b7fd75d5", func := "paymaster/paymasterlaw13.MasterStaff", spec := "masterStaff", inPlace := ["slices.overlaps[paymaster/master.Person]", "slices.overlaps[paymaster/master.Record]"], unfollowed := true, recurses := true, apart := false, narrowed := true }
def MasterStaffUptoSaid : Prop := masterStaffUptoRow.holds Try.pinned (OpenSpec.upto masterStaffSpec)

/-- 'paymasterlaw13.MasterKeeps', WHERE WHAT IT READS IS OF BULK AT MOST 1048576: true; the input reads as it did. -/
def masterKeepsUptoRow : OpenClaim := { program := "ytndofikacmhejaa", sum := "e2702c64814757b29a9521f238e2210ed7bd8d083d198786cac8e778b7fd75d5", func := "paymaster/paymasterlaw13.MasterKeeps", spec := "masterKeeps", inPlace := ["slices.overlaps[paymaster/master.Person]", "slices.overlaps[paymaster/master.Record]"], unfollowed := true, recurses := true, apart := false, narrowed := true }
def MasterKeepsUptoSaid : Prop := masterKeepsUptoRow.holds Try.pinned (OpenSpec.upto masterKeepsSpec)

end Rows
end Go.Proofs.Ytndofikacmhejaa
