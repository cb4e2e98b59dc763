/- bank.Read: what it reads. No statement of the seed is proved here. -/
import Derived.Test.YtjlamhilnkadcaaGreatDoorBkD
namespace Go.Proofs.YtjlamhilnkadcaaGreatDoor.Pay
open Go Go.RowKit
set_option linter.unusedVariables false
set_option linter.unusedSimpArgs false

/-- The rows of a text. -/
def splL (s : List UInt8) : List (List UInt8) := (Lib.splitB ⟨[10].toArray⟩ 0 (Lib.countB ⟨s.toArray⟩ ⟨[10].toArray⟩) ⟨s.toArray⟩).map (·.data.toList)
theorem splL_len (s : List UInt8) : (splL s).length ≤ s.length + 1 := by
  have h1 : 1 ≤ (⟨[10].toArray⟩ : ByteArray).size := by decide
  rw [splL, List.length_map, Lib.splitB_all _ h1 0 _ _ rfl]
  have := Lib.countB_le ⟨[10].toArray⟩ h1 _ ⟨s.toArray⟩ (Nat.le_refl _)
  have e : (⟨s.toArray⟩ : ByteArray).size = s.length := by simp [ByteArray.size]
  omega
theorem splitF_ok (s : List UInt8) (h : s.length < 4294967281) : Gives Tryz.prog 16 [.d (.str s), .d (.str [10])] (.d (.list 1 ((splL s).map .str))) := by
  have := splitS_ok s [10] h (by decide)
  rw [splL, List.map_map]
  exact this
def midL (X : List (List UInt8)) : List (List UInt8) := (X.drop 1).take (X.length - 2 - 1)
def getP (t : List UInt8) : Pm := ⟨((t.getD 0 0).toNat : Int), (atoiP (t.tail.take 10)).1, (atoiP (t.drop 11)).1⟩
def rawR (X : List (List UInt8)) : Option (Int × List Pm) :=
  if X.length < 3 ∨ (X.getD 0 []).length ≠ 6 then none else if (midL X).all (fun t => decide (t.length = 27)) = true then some ((atoiP (X.getD 0 []).tail).1, (midL X).map getP) else none
def readR (s : List UInt8) : Option (Int × List Pm) := (rawR (splL s)).bind fun f => if (rightFB f.1 f.2 && (textL f.1 f.2 == s)) = true then some f else none
def encR : Option (Int × List Pm) → FV
  | some f => .tup [.d (encF f.1 f.2), .d (dI 0)]
  | none => .tup [.d (encF 0 []), .d (dI 2)]
end Go.Proofs.YtjlamhilnkadcaaGreatDoor.Pay
