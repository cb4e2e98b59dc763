/- What walks share: numbers, rows of numbers told by a function, pieces of lists. No statement of the seed is proved here. -/
import Derived.Test.YtjlamhilnkadcaaDoorPayT
namespace Go.Proofs.YtjlamhilnkadcaaDoor.Pay
open Go Go.Proofs
set_option linter.unusedVariables false
set_option linter.unusedSimpArgs false

section
variable {id : Nat} {ops : Array Oper} {c : Code} {s s' : St} {Q : Exit → St → Prop}
/-- Regions, over this seat's table. -/
theorem qR (h : evOps tab ops ops.size ops.toList s = some ([], s')) (k : seqQ Tryd.prog c Q .normal s') : WpC Tryd.prog (.seq (.region id ops false) c) s Q := WpC.seq (WpC.ops tabOk h rfl k)
theorem qr (h : evOps tab ops ops.size ops.toList s = some ([], s')) (k : Q .normal s') : WpC Tryd.prog (.region id ops false) s Q := WpC.ops tabOk h rfl k
end
@[reducible] def dI (n : Int) : D := .int .i64 n
theorem take_all {α : Type} (p : α → Bool) {l : List α} {k : Nat} (h : k < l.length) : (l.take (k + 1)).all p = ((l.take k).all p && p l[k]) := by
  rw [List.take_add_one, List.getElem?_eq_getElem h]; simp only [Option.toList_some, List.all_append, List.all_cons, List.all_nil, Bool.and_true]
theorem any_take {α : Type} (f : α → Bool) {l : List α} {k : Nat} (h : k < l.length) : (l.take (k + 1)).any f = ((l.take k).any f || f l[k]) := by
  rw [List.take_add_one, List.getElem?_eq_getElem h]; simp only [Option.toList_some, List.any_append, List.any_cons, List.any_nil, Bool.or_false]

/-- A row of numbers, told by a function. -/
def rowF (g : Nat → Int) (n : Nat) : List D := (List.range n).map fun i => dI (g i)
def upd (g : Nat → Int) (i : Nat) (x : Int) : Nat → Int := fun j => if j = i then x else g j
@[simp] theorem rowF_len (g : Nat → Int) (n : Nat) : (rowF g n).length = n := by simp [rowF]
@[simp] theorem rowF_at (g : Nat → Int) (n i : Nat) (h : i < (rowF g n).length) : (rowF g n)[i] = dI (g i) := by simp [rowF]
theorem rowF_get {g : Nat → Int} {n i : Nat} (h : i < n) : (rowF g n)[i]? = some (dI (g i)) := by
  rw [List.getElem?_eq_getElem (by simpa using h), rowF_at]
@[simp] theorem rowF_set (g : Nat → Int) (n i : Nat) (x : Int) : (rowF g n).set i (.int .i64 x) = rowF (upd g i x) n := by
  apply List.ext_getElem?
  intro j
  rw [List.getElem?_set]
  by_cases hj : j < n
  · by_cases hij : i = j
    · subst hij; rw [if_pos rfl, if_pos (by simpa using hj), rowF_get hj, show upd g i x i = x from if_pos rfl]
    · rw [if_neg hij, rowF_get hj, rowF_get hj, show upd g i x j = g j from if_neg (Ne.symm hij)]
  · rw [List.getElem?_eq_none (by simp; omega), List.getElem?_eq_none (by simp; omega)]
    split
    · split
      · rename_i h1 h2; simp at h2; omega
      · rfl
    · rfl
theorem rowF_ext {g h : Nat → Int} {n : Nat} (e : ∀ i, i < n → g i = h i) : rowF g n = rowF h n := by
  unfold rowF
  exact List.map_congr_left fun i hi => by rw [e i (by simpa using hi)]
theorem rowF_of (l : List Int) : l.map dI = rowF (fun i => (l[i]?).getD 0) l.length := by
  apply List.ext_getElem?
  intro j
  by_cases hj : j < l.length
  · rw [rowF_get hj, List.getElem?_map, List.getElem?_eq_getElem hj]; rfl
  · rw [List.getElem?_eq_none (by simp; omega), List.getElem?_eq_none (by simp; omega)]
theorem shr1 {i j h : Nat} (hh : (i + j) / 2 = h) (hb : i + j ≤ 4000000000) : IntKind.i64.wrap ((IntKind.u64.wrap (IntKind.i64.wrap ((i : Int) + j))).fdiv (2 ^ min 1 IntKind.u64.bits)) = (h : Int) := by
  have h1 : IntKind.i64.wrap ((i : Int) + j) = i + j := wrapI (by omega) (by omega)
  have h2 : IntKind.u64.wrap ((i : Int) + j) = i + j := by simp [IntKind.wrap, IntKind.bits, IntKind.signed]; omega
  rw [h1, h2]
  have : ((2 : Int) ^ min 1 IntKind.u64.bits) = 2 := by decide
  rw [this, Int.fdiv_eq_ediv_of_nonneg _ (by omega), wrapI (by omega) (by omega)]
  omega
end Go.Proofs.YtjlamhilnkadcaaDoor.Pay
