/-
  DERIVED. GIVEN WITH THE SEED: THE CARDS: each row of YtjlamhilnkadcaaGreatDoorRows.lean that lists a variable, with what it lists TIED to the program's text (the seventh form; the later family's looks); each row that meets fmt, with fmt's text TOLD by the authors' own Lean function (tested against real Go, not proved from fmt's source: count such statements apart). THE CARD IS WHAT COUNTS. Prove the row's statement (the work); the ties are given (YtjlamhilnkadcaaGreatDoorTie.lean); close each card by the builder's one call (the guide's Derived/Test/ToyasCard.lean, 'card_holds'). Laid BY PROGRAM, IN A SANDBOX (cutbox-door.mjs). By AI agents, Wed Nov 11 2026. No macro, syntax, notation, axiom, sorry.
-/
import Derived.Test.YtjlamhilnkadcaaGreatDoorRows
import GoSem.ClaimSeven
namespace Go.Proofs.YtjlamhilnkadcaaGreatDoor
namespace Rows

/-- THE TIED CARD OF 'paymasterlaw22.BankEmpty'. -/
def bankEmptyCard : Claim7 := { stood := { row := bankEmptyRow, standIns := [], harness := (true, "a4081f7582c1e854a3b1d52e1bec3c77e712fb8a46489ef7a5f2a2f39667cc4f"), looks := true }, kinds := [], alts := [], laidByText := true, laidKinds := [.data, .data, .data, .data, .sentinel, .sentinel, .pinned], laidTests := true, laidLooks := .later }
def BankEmptyCardSaid : Prop := Claim7.holds Tryz.pinned (.plain (OpenSpec.ofChange bankEmptySpec)) bankEmptyCard

/-- THE SECOND FORM's CARD OF 'paymasterlaw22.BankEmpty'. -/
def bankEmptyUptoCard : Claim7 := { stood := { row := bankEmptyUptoRow, standIns := [], harness := (true, "a4081f7582c1e854a3b1d52e1bec3c77e712fb8a46489ef7a5f2a2f39667cc4f"), looks := true }, kinds := [], alts := [], laidByText := true, laidKinds := [.data, .data, .data, .data, .sentinel, .sentinel, .pinned], laidTests := true, laidLooks := .later }
def BankEmptyUptoCardSaid : Prop := Claim7.holds Tryz.pinned (.plain (OpenSpec.upto bankEmptySpec)) bankEmptyUptoCard
end Rows
end Go.Proofs.YtjlamhilnkadcaaGreatDoor
