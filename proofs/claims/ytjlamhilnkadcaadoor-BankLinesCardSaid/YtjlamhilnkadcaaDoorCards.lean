/-
  DERIVED. GIVEN WITH THE SEED: THE CARDS: each row of YtjlamhilnkadcaaDoorRows.lean that lists a variable, with what it lists TIED to the program's text (the seventh form; the later family's looks); each row that meets fmt, with fmt's text TOLD by the authors' own Lean function (tested against real Go, not proved from fmt's source: count such statements apart). THE CARD IS WHAT COUNTS. Prove the row's statement (the work); the ties are given (YtjlamhilnkadcaaDoorTie.lean); close each card by the builder's one call (the guide's Derived/Test/ToyasCard.lean, 'card_holds'). Laid BY PROGRAM, IN A SANDBOX (cutbox-door.mjs). By AI agents, Wed Nov 11 2026. No macro, syntax, notation, axiom, sorry.
-/
import Derived.Test.YtjlamhilnkadcaaDoorRows
import GoSem.ClaimSeven
namespace Go.Proofs.YtjlamhilnkadcaaDoor
namespace Rows

/-- THE TIED CARD OF 'paymasterlaw22.BankWrites'. -/
def bankWritesCard : Claim7 := { stood := { row := bankWritesRow, standIns := [], harness := (true, "c01bee189c3f1aad59b740c82b9bb26a2cdd8166986e69bf40095c55d170a4cf"), looks := true }, kinds := [], alts := [], laidByText := true, laidKinds := [.data, .data, .data, .data, .sentinel, .sentinel, .pinned], laidTests := true, laidLooks := .later }
def BankWritesCardSaid : Prop := Claim7.holds Tryd.pinned (.plain (OpenSpec.ofChange bankWritesSpec)) bankWritesCard

/-- THE TIED CARD OF 'paymasterlaw22.BankReads'. -/
def bankReadsCard : Claim7 := { stood := { row := bankReadsRow, standIns := [], harness := (true, "c01bee189c3f1aad59b740c82b9bb26a2cdd8166986e69bf40095c55d170a4cf"), looks := true }, kinds := [], alts := [], laidByText := true, laidKinds := [.data, .data, .data, .data, .sentinel, .sentinel, .pinned], laidTests := true, laidLooks := .later }
def BankReadsCardSaid : Prop := Claim7.holds Tryd.pinned (.plain (OpenSpec.ofChange bankReadsSpec)) bankReadsCard

/-- THE TIED CARD OF 'paymasterlaw22.BankTurned'. -/
def bankTurnedCard : Claim7 := { stood := { row := bankTurnedRow, standIns := [], harness := (true, "c01bee189c3f1aad59b740c82b9bb26a2cdd8166986e69bf40095c55d170a4cf"), looks := true }, kinds := [], alts := [], laidByText := true, laidKinds := [.data, .data, .data, .data, .sentinel, .sentinel, .pinned], laidTests := true, laidLooks := .later }
def BankTurnedCardSaid : Prop := Claim7.holds Tryd.pinned (.plain (OpenSpec.ofChange bankTurnedSpec)) bankTurnedCard

/-- THE TIED CARD OF 'paymasterlaw22.BankLines'. -/
def bankLinesCard : Claim7 := { stood := { row := bankLinesRow, standIns := [], harness := (true, "c01bee189c3f1aad59b740c82b9bb26a2cdd8166986e69bf40095c55d170a4cf"), looks := true }, kinds := [], alts := [], laidByText := true, laidKinds := [.data, .data, .data, .data, .sentinel, .sentinel, .pinned], laidTests := true, laidLooks := .later }
def BankLinesCardSaid : Prop := Claim7.holds Tryd.pinned (.plain (OpenSpec.ofChange bankLinesSpec)) bankLinesCard

/-- THE TIED CARD OF 'paymasterlaw22.BankOrder'. -/
def bankOrderCard : Claim7 := { stood := { row := bankOrderRow, standIns := [], harness := (true, "c01bee189c3f1aad59b740c82b9bb26a2cdd8166986e69bf40095c55d170a4cf"), looks := true }, kinds := [], alts := [], laidByText := true, laidKinds := [.data, .data, .data, .data, .sentinel, .sentinel, .pinned], laidTests := true, laidLooks := .later }
def BankOrderCardSaid : Prop := Claim7.holds Tryd.pinned (.plain (OpenSpec.ofChange bankOrderSpec)) bankOrderCard

/-- THE SECOND FORM's CARD OF 'paymasterlaw22.BankWrites'. -/
def bankWritesUptoCard : Claim7 := { stood := { row := bankWritesUptoRow, standIns := [], harness := (true, "c01bee189c3f1aad59b740c82b9bb26a2cdd8166986e69bf40095c55d170a4cf"), looks := true }, kinds := [], alts := [], laidByText := true, laidKinds := [.data, .data, .data, .data, .sentinel, .sentinel, .pinned], laidTests := true, laidLooks := .later }
def BankWritesUptoCardSaid : Prop := Claim7.holds Tryd.pinned (.plain (OpenSpec.upto bankWritesSpec)) bankWritesUptoCard

/-- THE SECOND FORM's CARD OF 'paymasterlaw22.BankReads'. -/
def bankReadsUptoCard : Claim7 := { stood := { row := bankReadsUptoRow, standIns := [], harness := (true, "c01bee189c3f1aad59b740c82b9bb26a2cdd8166986e69bf40095c55d170a4cf"), looks := true }, kinds := [], alts := [], laidByText := true, laidKinds := [.data, .data, .data, .data, .sentinel, .sentinel, .pinned], laidTests := true, laidLooks := .later }
def BankReadsUptoCardSaid : Prop := Claim7.holds Tryd.pinned (.plain (OpenSpec.upto bankReadsSpec)) bankReadsUptoCard

/-- THE SECOND FORM's CARD OF 'paymasterlaw22.BankTurned'. -/
def bankTurnedUptoCard : Claim7 := { stood := { row := bankTurnedUptoRow, standIns := [], harness := (true, "c01bee189c3f1aad59b740c82b9bb26a2cdd8166986e69bf40095c55d170a4cf"), looks := true }, kinds := [], alts := [], laidByText := true, laidKinds := [.data, .data, .data, .data, .sentinel, .sentinel, .pinned], laidTests := true, laidLooks := .later }
def BankTurnedUptoCardSaid : Prop := Claim7.holds Tryd.pinned (.plain (OpenSpec.upto bankTurnedSpec)) bankTurnedUptoCard

/-- THE SECOND FORM's CARD OF 'paymasterlaw22.BankLines'. -/
def bankLinesUptoCard : Claim7 := { stood := { row := bankLinesUptoRow, standIns := [], harness := (true, "c01bee189c3f1aad59b740c82b9bb26a2cdd8166986e69bf40095c55d170a4cf"), looks := true }, kinds := [], alts := [], laidByText := true, laidKinds := [.data, .data, .data, .data, .sentinel, .sentinel, .pinned], laidTests := true, laidLooks := .later }
def BankLinesUptoCardSaid : Prop := Claim7.holds Tryd.pinned (.plain (OpenSpec.upto bankLinesSpec)) bankLinesUptoCard

/-- THE SECOND FORM's CARD OF 'paymasterlaw22.BankOrder'. -/
def bankOrderUptoCard : Claim7 := { stood := { row := bankOrderUptoRow, standIns := [], harness := (true, "c01bee189c3f1aad59b740c82b9bb26a2cdd8166986e69bf40095c55d170a4cf"), looks := true }, kinds := [], alts := [], laidByText := true, laidKinds := [.data, .data, .data, .data, .sentinel, .sentinel, .pinned], laidTests := true, laidLooks := .later }
def BankOrderUptoCardSaid : Prop := Claim7.holds Tryd.pinned (.plain (OpenSpec.upto bankOrderSpec)) bankOrderUptoCard
end Rows
end Go.Proofs.YtjlamhilnkadcaaDoor
