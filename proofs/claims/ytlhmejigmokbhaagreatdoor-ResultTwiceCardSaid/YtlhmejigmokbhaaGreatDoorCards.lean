/-
  DERIVED. GIVEN WITH THE SEED: THE CARDS: each row of YtlhmejigmokbhaaGreatDoorRows.lean that lists a variable, with what it lists TIED to the program's text (the seventh form; the later family's looks); each row that meets fmt, with fmt's text TOLD by the authors' own Lean function (tested against real Go, not proved from fmt's source: count such statements apart). THE CARD IS WHAT COUNTS. Prove the row's statement (the work); the ties are given (YtlhmejigmokbhaaGreatDoorTie.lean); close each card by the builder's one call (the guide's Derived/Test/ToyasCard.lean, 'card_holds'). Laid BY PROGRAM, IN A SANDBOX (cutbox-door.mjs). By AI agents, Wed Nov 11 2026. No macro, syntax, notation, axiom, sorry.
-/
import Derived.Test.YtlhmejigmokbhaaGreatDoorRows
import GoSem.ClaimSeven
namespace Go.Proofs.YtlhmejigmokbhaaGreatDoor
namespace Rows

/-- THE TIED CARD OF 'paymasterlaw16.ResultWhole'. -/
def resultWholeCard : Claim7 := { stood := { row := resultWholeRow, standIns := [], harness := (true, "595b4161b105627bd426477c2ff09a304593a1ca7e6426b25036367675d3b68f"), looks := true }, kinds := [], alts := [], laidByText := true, laidKinds := [.data, .data, .data, .data, .sentinel, .sentinel, .pinned], laidTests := true, laidLooks := .later }
def ResultWholeCardSaid : Prop := Claim7.holds Tryz.pinned (.plain (OpenSpec.ofChange resultWholeSpec)) resultWholeCard

/-- THE TIED CARD OF 'paymasterlaw16.ResultTwice'. -/
def resultTwiceCard : Claim7 := { stood := { row := resultTwiceRow, standIns := [], harness := (true, "595b4161b105627bd426477c2ff09a304593a1ca7e6426b25036367675d3b68f"), looks := true }, kinds := [], alts := [], laidByText := true, laidKinds := [.data, .data, .data, .data, .sentinel, .sentinel, .pinned], laidTests := true, laidLooks := .later }
def ResultTwiceCardSaid : Prop := Claim7.holds Tryz.pinned (.plain (OpenSpec.ofChange resultTwiceSpec)) resultTwiceCard

/-- THE TIED CARD OF 'paymasterlaw16.ResultPlain'. -/
def resultPlainCard : Claim7 := { stood := { row := resultPlainRow, standIns := [], harness := (true, "595b4161b105627bd426477c2ff09a304593a1ca7e6426b25036367675d3b68f"), looks := true }, kinds := [], alts := [], laidByText := true, laidKinds := [.data, .data, .data, .data, .sentinel, .sentinel, .pinned], laidTests := true, laidLooks := .later }
def ResultPlainCardSaid : Prop := Claim7.holds Tryz.pinned (.plain (OpenSpec.ofChange resultPlainSpec)) resultPlainCard

/-- THE TIED CARD OF 'paymasterlaw16.ResultHeld'. -/
def resultHeldCard : Claim7 := { stood := { row := resultHeldRow, standIns := [], harness := (true, "595b4161b105627bd426477c2ff09a304593a1ca7e6426b25036367675d3b68f"), looks := true }, kinds := [], alts := [], laidByText := true, laidKinds := [.data, .data, .data, .data, .sentinel, .sentinel, .pinned], laidTests := true, laidLooks := .later }
def ResultHeldCardSaid : Prop := Claim7.holds Tryz.pinned (.plain (OpenSpec.ofChange resultHeldSpec)) resultHeldCard

/-- THE TIED CARD OF 'paymasterlaw16.ResultYear'. -/
def resultYearCard : Claim7 := { stood := { row := resultYearRow, standIns := [], harness := (true, "595b4161b105627bd426477c2ff09a304593a1ca7e6426b25036367675d3b68f"), looks := true }, kinds := [], alts := [], laidByText := true, laidKinds := [.data, .data, .data, .data, .sentinel, .sentinel, .pinned], laidTests := true, laidLooks := .later }
def ResultYearCardSaid : Prop := Claim7.holds Tryz.pinned (.plain (OpenSpec.ofChange resultYearSpec)) resultYearCard

/-- THE TIED CARD OF 'paymasterlaw21.JournalOne'. -/
def journalOneCard : Claim7 := { stood := { row := journalOneRow, standIns := [], harness := (true, "595b4161b105627bd426477c2ff09a304593a1ca7e6426b25036367675d3b68f"), looks := true }, kinds := [], alts := [], laidByText := true, laidKinds := [.data, .data, .data, .data, .sentinel, .sentinel, .pinned], laidTests := true, laidLooks := .later }
def JournalOneCardSaid : Prop := Claim7.holds Tryz.pinned (.plain (OpenSpec.ofChange journalOneSpec)) journalOneCard

/-- THE SECOND FORM's CARD OF 'paymasterlaw16.ResultWhole'. -/
def resultWholeUptoCard : Claim7 := { stood := { row := resultWholeUptoRow, standIns := [], harness := (true, "595b4161b105627bd426477c2ff09a304593a1ca7e6426b25036367675d3b68f"), looks := true }, kinds := [], alts := [], laidByText := true, laidKinds := [.data, .data, .data, .data, .sentinel, .sentinel, .pinned], laidTests := true, laidLooks := .later }
def ResultWholeUptoCardSaid : Prop := Claim7.holds Tryz.pinned (.plain (OpenSpec.upto resultWholeSpec)) resultWholeUptoCard

/-- THE SECOND FORM's CARD OF 'paymasterlaw16.ResultTwice'. -/
def resultTwiceUptoCard : Claim7 := { stood := { row := resultTwiceUptoRow, standIns := [], harness := (true, "595b4161b105627bd426477c2ff09a304593a1ca7e6426b25036367675d3b68f"), looks := true }, kinds := [], alts := [], laidByText := true, laidKinds := [.data, .data, .data, .data, .sentinel, .sentinel, .pinned], laidTests := true, laidLooks := .later }
def ResultTwiceUptoCardSaid : Prop := Claim7.holds Tryz.pinned (.plain (OpenSpec.upto resultTwiceSpec)) resultTwiceUptoCard

/-- THE SECOND FORM's CARD OF 'paymasterlaw16.ResultPlain'. -/
def resultPlainUptoCard : Claim7 := { stood := { row := resultPlainUptoRow, standIns := [], harness := (true, "595b4161b105627bd426477c2ff09a304593a1ca7e6426b25036367675d3b68f"), looks := true }, kinds := [], alts := [], laidByText := true, laidKinds := [.data, .data, .data, .data, .sentinel, .sentinel, .pinned], laidTests := true, laidLooks := .later }
def ResultPlainUptoCardSaid : Prop := Claim7.holds Tryz.pinned (.plain (OpenSpec.upto resultPlainSpec)) resultPlainUptoCard

/-- THE SECOND FORM's CARD OF 'paymasterlaw16.ResultHeld'. -/
def resultHeldUptoCard : Claim7 := { stood := { row := resultHeldUptoRow, standIns := [], harness := (true, "595b4161b105627bd426477c2ff09a304593a1ca7e6426b25036367675d3b68f"), looks := true }, kinds := [], alts := [], laidByText := true, laidKinds := [.data, .data, .data, .data, .sentinel, .sentinel, .pinned], laidTests := true, laidLooks := .later }
def ResultHeldUptoCardSaid : Prop := Claim7.holds Tryz.pinned (.plain (OpenSpec.upto resultHeldSpec)) resultHeldUptoCard

/-- THE SECOND FORM's CARD OF 'paymasterlaw16.ResultYear'. -/
def resultYearUptoCard : Claim7 := { stood := { row := resultYearUptoRow, standIns := [], harness := (true, "595b4161b105627bd426477c2ff09a304593a1ca7e6426b25036367675d3b68f"), looks := true }, kinds := [], alts := [], laidByText := true, laidKinds := [.data, .data, .data, .data, .sentinel, .sentinel, .pinned], laidTests := true, laidLooks := .later }
def ResultYearUptoCardSaid : Prop := Claim7.holds Tryz.pinned (.plain (OpenSpec.upto resultYearSpec)) resultYearUptoCard

/-- THE SECOND FORM's CARD OF 'paymasterlaw21.JournalOne'. -/
def journalOneUptoCard : Claim7 := { stood := { row := journalOneUptoRow, standIns := [], harness := (true, "595b4161b105627bd426477c2ff09a304593a1ca7e6426b25036367675d3b68f"), looks := true }, kinds := [], alts := [], laidByText := true, laidKinds := [.data, .data, .data, .data, .sentinel, .sentinel, .pinned], laidTests := true, laidLooks := .later }
def JournalOneUptoCardSaid : Prop := Claim7.holds Tryz.pinned (.plain (OpenSpec.upto journalOneSpec)) journalOneUptoCard
end Rows
end Go.Proofs.YtlhmejigmokbhaaGreatDoor
