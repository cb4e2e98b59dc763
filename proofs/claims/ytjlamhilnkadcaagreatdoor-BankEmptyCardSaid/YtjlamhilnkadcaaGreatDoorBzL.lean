/- The bank in one word: Write, Read (for a seat without the document's bank). No statement of the seed is proved here. -/
import Derived.Test.YtjlamhilnkadcaaGreatDoorBkB
import Derived.Test.YtjlamhilnkadcaaGreatDoorBkE
import Derived.Test.YtjlamhilnkadcaaGreatDoorBkG
import Derived.Test.YtjlamhilnkadcaaGreatDoorBkK
namespace Go.Proofs.YtjlamhilnkadcaaGreatDoor.Pay
open Go Go.RowKit
set_option linter.unusedVariables false
set_option linter.unusedSimpArgs false

def wrS (per : Int) (l : List Pm) : List UInt8 := if rightFB per l = true then textL per l else []
def wrE (per : Int) (l : List Pm) : Int := if rightFB per l = true then 0 else 1
theorem writeA_ok (per : Int) (l : List Pm) (hl : l.length ≤ 9223372036854775807) : Gives Tryz.prog 5 [.d (encF per l)] (.tup [.d (.str (wrS per l)), .d (dI (wrE per l))]) := by
  have hc := rightF_ok per l hl
  unfold wrS wrE
  by_cases h : rightFB per l = true
  · rw [if_pos h, if_pos h]
    exact writeF_ok per l h hc
  · rw [if_neg h, if_neg h]
    exact write_no per l hl (by simpa using h) hc
theorem readA_ok (s : List UInt8) (h : s.length ≤ 1000000) : Gives Tryz.prog 7 [.d (.str s)] (encR (readR s)) :=
  read_ok s h fun per l hl => writeA_ok per l (by omega)
end Go.Proofs.YtjlamhilnkadcaaGreatDoor.Pay
