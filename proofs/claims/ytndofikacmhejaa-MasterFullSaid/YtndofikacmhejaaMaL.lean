/- Fifty people hired: what is plain. No statement of the seed is proved here. -/
import Derived.Test.YtndofikacmhejaaMaH
namespace Go.Proofs.Ytndofikacmhejaa.Pay
open Go Go.RowKit
set_option linter.unusedVariables false
set_option linter.unusedSimpArgs false

def srchK {α : Type} (cmp : α → Int) (l : List α) : Nat := bsf l.length (ltAt cmp l) 0 l.length
def srchBK {α : Type} (cmp : α → Int) (l : List α) : Bool := match l[srchK cmp l]? with | some x => decide (cmp x = 0) | none => false
def hireK (l : List Per) (id : Int) (r : Rec) : List Per × Int :=
  if hireBad id r = true then (l, 1) else if srchBK (perCmp id) l = true then (l, 6) else if 50 ≤ (l.length : Int) then (l, 9) else
    (l.take (srchK (perCmp id) l) ++ ⟨id, r.frm, 0, [r], []⟩ :: l.drop (srchK (perCmp id) l), 0)
theorem srchK_eq {α : Type} (cmp : α → Int) (l : List α) : srch cmp l = srchK cmp l := srch_fuel cmp l
theorem srchBK_eq {α : Type} (cmp : α → Int) (l : List α) : srchB cmp l = srchBK cmp l := by
  unfold srchB srchBK; rw [srchK_eq]; rfl
theorem hireK_eq (l : List Per) (id : Int) (r : Rec) : hireS l id r = hireK l id r := by
  unfold hireS hireK; rw [srchK_eq, srchBK_eq]

def mfR (n : Int) : Rec := ⟨24276 + n, 0, 0, 0, 0, 0, false⟩
def mfId (K : Int) : Nat → Int
  | 0 => 0
  | i + 1 => (mfId K i + K) % 50
def mfL (K : Int) : Nat → List Per
  | 0 => []
  | i + 1 => (hireS (mfL K i) (mfId K (i + 1) + 1) (mfR (mfId K (i + 1)))).1
def mfE (K : Int) (i : Nat) : Int := (hireS (mfL K i) (mfId K (i + 1) + 1) (mfR (mfId K (i + 1)))).2

def mfRun (K : Int) : Nat → Int → List Per → Option (List Per)
  | 0, _, l => some l
  | n + 1, d, l => match hireK l ((d + K) % 50 + 1) (mfR ((d + K) % 50)) with
    | (l', e) => if e = 0 then mfRun K n ((d + K) % 50) l' else none
def mfP (n : Nat) : Per := ⟨n + 1, 24276 + n, 0, [⟨24276 + n, 0, 0, 0, 0, 0, false⟩], []⟩
def mfF : List Per := (List.range 50).map mfP
def recEq (a b : Rec) : Bool := decide (a.frm = b.frm ∧ a.ctr = b.ctr ∧ a.base = b.base ∧ a.bonus = b.bonus ∧ a.hours = b.hours ∧ a.days = b.days ∧ a.lead = b.lead)
def perEq (a b : Per) : Bool := decide (a.id = b.id ∧ a.hired = b.hired ∧ a.gone = b.gone ∧ a.ords.length = 0 ∧ b.ords.length = 0) && (match a.recs, b.recs with | [x], [y] => recEq x y | _, _ => false)
theorem recEq_eq {a b : Rec} (h : recEq a b = true) : a = b := by
  unfold recEq at h
  simp only [decide_eq_true_eq] at h
  obtain ⟨h1, h2, h3, h4, h5, h6, h7⟩ := h
  cases a; cases b; simp_all
theorem perEq_eq {a b : Per} (h : perEq a b = true) : a = b := by
  unfold perEq at h
  simp only [Bool.and_eq_true, decide_eq_true_eq] at h
  obtain ⟨⟨h1, h2, h3, h4, h5⟩, h6⟩ := h
  obtain ⟨i, hi, g, r, o⟩ := a
  obtain ⟨i2, hi2, g2, r2, o2⟩ := b
  simp only [List.length_eq_zero_iff] at h4 h5
  simp only at h1 h2 h3
  subst h1 h2 h3 h4 h5
  split at h6
  · rename_i x y hx hy
    simp only at hx hy
    rw [hx, hy, recEq_eq h6]
  · cases h6
def persEq : List Per → List Per → Bool
  | [], [] => true
  | a :: l, b :: m => perEq a b && persEq l m
  | _, _ => false
theorem persEq_eq : ∀ {l m : List Per}, persEq l m = true → l = m
  | [], [], _ => rfl
  | a :: l, b :: m, h => by
    simp only [persEq, Bool.and_eq_true] at h
    rw [perEq_eq h.1, persEq_eq h.2]
  | [], _ :: _, h => by simp [persEq] at h
  | _ :: _, [], h => by simp [persEq] at h
def mfKs : List Int := [1, 3, 7, 9, 11, 13, 17, 19, 21, 23, 27, 29, 31, 33, 37, 39]
def mfChk (K : Int) : Bool := match mfRun K 50 0 [] with | some l => persEq l mfF | none => false
theorem mf_chk : (mfKs.all mfChk) = true := by decide +kernel

theorem mfRun_ok {K : Int} : ∀ {n i : Nat} {r : List Per}, mfRun K n (mfId K i) (mfL K i) = some r → (∀ j, i ≤ j → j < i + n → mfE K j = 0) ∧ mfL K (i + n) = r
  | 0, i, r, h => by
    simp only [mfRun, Option.some.injEq] at h
    exact ⟨fun j h1 h2 => by omega, h⟩
  | n + 1, i, r, h => by
    unfold mfRun at h
    have e1 : (mfId K i + K) % 50 = mfId K (i + 1) := rfl
    rw [e1, ← hireK_eq] at h
    split at h
    rename_i l' e he
    have e2 : mfE K i = e := by unfold mfE; rw [he]
    have e3 : mfL K (i + 1) = l' := by show (hireS _ _ _).1 = l'; rw [he]
    split at h
    · rename_i h0
      rw [← e3] at h
      obtain ⟨q1, q2⟩ := mfRun_ok h
      refine ⟨fun j h1 h2 => ?_, by rw [← q2]; congr 1; omega⟩
      by_cases hj : j = i
      · subst hj; rw [e2, h0]
      · exact q1 j (by omega) (by omega)
    · cases h
theorem mf_ok {K : Int} (hK : K ∈ mfKs) : (∀ j, j < 50 → mfE K j = 0) ∧ mfL K 50 = mfF := by
  have h := (List.all_eq_true.1 mf_chk) K hK
  unfold mfChk at h
  split at h
  · rename_i l hl
    obtain ⟨h1, h2⟩ := mfRun_ok (K := K) (n := 50) (i := 0) hl
    exact ⟨fun j hj => h1 j (by omega) (by omega), by rw [show (50 : Nat) = 0 + 50 from rfl, h2, persEq_eq h]⟩
  · cases h
end Go.Proofs.Ytndofikacmhejaa.Pay
