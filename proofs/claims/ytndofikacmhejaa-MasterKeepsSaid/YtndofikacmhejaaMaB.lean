/- What master's functions give: where somebody stands; what counts in a period. No statement of the seed is proved here. -/
import Derived.Test.YtndofikacmhejaaMaA
namespace Go.Proofs.Ytndofikacmhejaa.Pay
open Go Go.Proofs
set_option linter.unusedVariables false
set_option maxHeartbeats 4000000
set_option linter.unusedSimpArgs false

/-- A search in halves. -/
def bs (lt : Nat → Bool) (i j : Nat) : Nat := if h : i < j then (if lt ((i + j) / 2) = true then bs lt ((i + j) / 2 + 1) j else bs lt i ((i + j) / 2)) else i
termination_by j - i
theorem bs_le {lt : Nat → Bool} {i j : Nat} (h : i ≤ j) : i ≤ bs lt i j ∧ bs lt i j ≤ j := by
  unfold bs
  split
  · split
    · have := bs_le (lt := lt) (i := (i + j) / 2 + 1) (j := j) (by omega); omega
    · have := bs_le (lt := lt) (i := i) (j := (i + j) / 2) (by omega); omega
  · omega
termination_by j - i

def perCmp (id : Int) (p : Per) : Int := IntKind.i64.wrap (p.id - id)
theorem findC_ok (p : Per) (id : Int) : Gives Try.prog 54 [.d p.enc, .d (dI id)] (.d (dI (perCmp id p))) := by
  refine Gives.enter tabOk Try.func54 rfl (by show 2 ≤ 9; decide) ?_
  simp only [Try.f54]
  refine WpC.seq (WpC.ops tabOk (r := []) (by simp -implicitDefEqProofs <;> rfl) rfl ?_)
  refine WpC.seq (WpC.ops tabOk (r := []) (by simp -implicitDefEqProofs <;> rfl) rfl ?_)
  refine WpC.ret ?_
  try simp only [blockQ, seqQ]
  refine retD_i (by simp -implicitDefEqProofs <;> rfl) (by simp -implicitDefEqProofs <;> rfl) ?_
  simp [perCmp]
def recCmp (frm : Int) (r : Rec) : Int := IntKind.i64.wrap (r.frm - frm)
theorem changeC_ok (r : Rec) (frm : Int) : Gives Try.prog 40 [.d r.enc, .d (dI frm)] (.d (dI (recCmp frm r))) := by
  refine Gives.enter tabOk Try.func40 rfl (by show 2 ≤ 9; decide) ?_
  simp only [Try.f40]
  refine WpC.seq (WpC.ops tabOk (r := []) (by simp -implicitDefEqProofs <;> rfl) rfl ?_)
  refine WpC.seq (WpC.ops tabOk (r := []) (by simp -implicitDefEqProofs <;> rfl) rfl ?_)
  refine WpC.ret ?_
  try simp only [blockQ, seqQ]
  refine retD_i (by simp -implicitDefEqProofs <;> rfl) (by simp -implicitDefEqProofs <;> rfl) ?_
  simp [recCmp]

def ltAt {α : Type} (cmp : α → Int) (l : List α) (k : Nat) : Bool := match l[k]? with | some x => decide (cmp x < 0) | none => false
def srch {α : Type} (cmp : α → Int) (l : List α) : Nat := bs (ltAt cmp l) 0 l.length
def srchB {α : Type} (cmp : α → Int) (l : List α) : Bool := match l[srch cmp l]? with | some x => decide (cmp x = 0) | none => false

theorem shr1 {i j h : Nat} (hh : (i + j) / 2 = h) (hb : i + j ≤ 4000000000) : IntKind.i64.wrap ((IntKind.u64.wrap (IntKind.i64.wrap ((i : Int) + j))).fdiv (2 ^ min 1 IntKind.u64.bits)) = (h : Int) := by
  have h1 : IntKind.i64.wrap ((i : Int) + j) = i + j := wrapI (by omega) (by omega)
  have h2 : IntKind.u64.wrap ((i : Int) + j) = i + j := by simp [IntKind.wrap, IntKind.bits, IntKind.signed]; omega
  rw [h1, h2]
  have : ((2 : Int) ^ min 1 IntKind.u64.bits) = 2 := by decide
  rw [this, Int.fdiv_eq_ediv_of_nonneg _ (by omega), wrapI (by omega) (by omega)]
  omega
theorem bs_step {lt : Nat → Bool} {i j h : Nat} (hh : (i + j) / 2 = h) (hij : i < j) : bs lt i j = if lt h = true then bs lt (h + 1) j else bs lt i h := by
  rw [bs, dif_pos hij, hh]
theorem bs_end {lt : Nat → Bool} {i j : Nat} (hij : ¬ i < j) : bs lt i j = i := by
  rw [bs, dif_neg hij]
theorem bsP_ok (l : List Per) (id : Int) (hl : l.length ≤ 1000000000) : Gives Try.prog 53 [.d (encPes l), .d (dI id), .fn 54 []] (.tup [.d (dI (srch (perCmp id) l)), .d (.bool (srchB (perCmp id) l))]) := by
  obtain ⟨R, hR⟩ : ∃ R, srch (perCmp id) l = R := ⟨_, rfl⟩
  have hR' : bs (ltAt (perCmp id) l) 0 l.length = R := hR
  refine Gives.enter tabOk Try.func53 rfl (by show 3 ≤ 49; decide) ?_
  simp only [Try.f53]
  refine WpC.seq (WpC.ops tabOk (r := []) (by simp -implicitDefEqProofs <;> rfl) rfl ?_)
  refine WpC.seq (WpC.ops tabOk (r := []) (by simp -implicitDefEqProofs <;> rfl) rfl ?_)
  refine WpC.seq (WpC.ops tabOk (r := []) (by simp -implicitDefEqProofs <;> rfl) rfl ?_)
  refine WpC.seq ?_
  refine WpC.block ?_
  refine WpC.loopM [0, 1, 2, 8] [9, 10] (fun x => x.2 - x.1) ((0, l.length) : Nat × Nat) (fun x => [(9, .d (dI x.1)), (10, .d (dI x.2))]) (fun x => []) (fun x => x.1 ≤ x.2 ∧ x.2 ≤ l.length ∧ bs (ltAt (perCmp id) l) x.1 x.2 = R) (by simp -implicitDefEqProofs <;> rfl) (Gh.cut' [9, 10, 0, 1, 2, 8] 0 (by simp -implicitDefEqProofs) (by simp -implicitDefEqProofs) rfl (by simp) (by simp) (by simp)) (⟨by simp, by simp, hR'⟩) ?_
  rintro x hi
  simp only [List.cons_append, List.nil_append]
  obtain ⟨i, j⟩ := x
  obtain ⟨h1, h2, h3⟩ := hi
  simp only at h1 h2 h3 ⊢
  refine WpC.seq ?_
  refine WpC.seq (WpC.ops tabOk (r := []) (by simp -implicitDefEqProofs <;> rfl) rfl ?_)
  refine WpC.condR (by simp -implicitDefEqProofs <;> rfl) (by rfl) (fun c17 => ?_) (fun c17 => ?_)
  · have c17' := c17; first | simp only [dT, dF] at c17' | try simp at c17'
    refine WpC.skip ?_
    refine WpC.block ?_
    have hij : i < j := by simpa using c17
    obtain ⟨h, hh⟩ : ∃ h, (i + j) / 2 = h := ⟨_, rfl⟩
    have hsh := shr1 hh (by omega)
    have hhl : h < l.length := by omega
    obtain ⟨p, hp⟩ : ∃ p, l[h] = p := ⟨_, rfl⟩
    have hpo : l[h]? = some p := by rw [List.getElem?_eq_getElem hhl, hp]
    have hL : ltAt (perCmp id) l h = decide (perCmp id p < 0) := by simp [ltAt, hpo]
    have hst := bs_step (lt := ltAt (perCmp id) l) hh hij
    have hw : IntKind.i64.wrap ((h : Int) + 1) = ((h + 1 : Nat) : Int) := by rw [wrapI (by omega) (by omega)]; rfl
    refine WpC.seq (WpC.ops tabOk (r := []) (by simp -implicitDefEqProofs [c17, hsh, hp, hhl, hw] <;> rfl) rfl ?_)
    refine WpC.seq ?_
    refine WpC.region ?_
    refine WpO.run tabOk 6 (by simp -implicitDefEqProofs [c17, hsh, hp, hhl, hw] <;> first | exact ⟨rfl, rfl⟩ | rfl) ?_
    refine WpO.data (by simp) rfl (by simp -implicitDefEqProofs [c17, hsh, hp, hhl, hw] <;> rfl) (by simp -implicitDefEqProofs [c17, hsh, hp, hhl, hw] <;> rfl) (by simp -implicitDefEqProofs [c17, hsh, hp, hhl, hw] <;> rfl) call_54 (by simp) (findC_ok p id) (by rfl) (by simp -implicitDefEqProofs [c17, hsh, hp, hhl, hw] <;> rfl) ?_
    refine WpO.run tabOk 1 (by simp -implicitDefEqProofs [c17, hsh, hp, hhl, hw] <;> first | exact ⟨rfl, rfl⟩ | rfl) ?_
    refine WpO.nil ?_
    refine WpC.condR (by simp -implicitDefEqProofs [c17, hsh, hp, hhl, hw] <;> rfl) (by rfl) (fun c31 => ?_) (fun c31 => ?_)
    · have c31' := c31; first | simp only [dT, dF] at c31' | try simp at c31'
      refine WpC.ops tabOk (r := []) (by simp -implicitDefEqProofs [c17, hsh, hp, hhl, hw, c31] <;> rfl) rfl ?_
      exact ⟨(h + 1, j), ⟨by simp; omega, h2, by rw [← h3, hst, hL, if_pos c31]⟩, by simp; omega, Gh.cut' [9, 10, 0, 1, 2, 8] 0 (by simp -implicitDefEqProofs [c17, hsh, hp, hhl, hw, c31, c17', c31']) (by simp) rfl (by simp) (by simp) (by simp)⟩
    · have c31' := c31; first | simp only [dT, dF] at c31' | try simp at c31'
      refine WpC.ops tabOk (r := []) (by simp -implicitDefEqProofs [c17, hsh, hp, hhl, hw, c31] <;> rfl) rfl ?_
      exact ⟨(i, h), ⟨by simp; omega, by simp; omega, by rw [← h3, hst, hL, if_neg (by rw [c31]; simp)]⟩, by simp; omega, Gh.cut' [9, 10, 0, 1, 2, 8] 0 (by simp -implicitDefEqProofs [c17, hsh, hp, hhl, hw, c31, c17', c31']) (by simp) rfl (by simp) (by simp) (by simp)⟩
  · have c17' := c17; first | simp only [dT, dF] at c17' | try simp at c17'
    refine WpC.exit ?_
    refine WpC.seq ?_
    have hij : ¬ i < j := by simpa using c17
    have hie : i = j := by omega
    subst hie
    rw [bs_end hij] at h3
    subst h3
    refine WpC.region ?_
    refine WpO.run tabOk 5 (by simp -implicitDefEqProofs [c17] <;> first | exact ⟨rfl, rfl⟩ | rfl) ?_
    refine WpO.splitB 39 (by simp -implicitDefEqProofs [c17] <;> rfl) (by rfl) (fun g39 => ?_) (fun g39 => ?_)
    · have g39' := g39; first | simp only [dT, dF] at g39' | try simp at g39'
      have hil : i < l.length := by simpa using g39
      obtain ⟨p, hp⟩ : ∃ p, l[i] = p := ⟨_, rfl⟩
      have hpo : l[i]? = some p := by rw [List.getElem?_eq_getElem hil, hp]
      refine WpO.run tabOk 6 (by simp -implicitDefEqProofs [c17, g39, hil, hp] <;> first | exact ⟨rfl, rfl⟩ | rfl) ?_
      refine WpO.data (by simp) rfl (by simp -implicitDefEqProofs [c17, g39, hil, hp] <;> rfl) (by simp -implicitDefEqProofs [c17, g39, hil, hp] <;> rfl) (by simp -implicitDefEqProofs [c17, g39, hil, hp] <;> rfl) call_54 (by simp) (findC_ok p id) (by rfl) (by simp -implicitDefEqProofs [c17, g39, hil, hp] <;> rfl) ?_
      refine WpO.run tabOk 4 (by simp -implicitDefEqProofs [c17, g39, hil, hp] <;> first | exact ⟨rfl, rfl⟩ | rfl) ?_
      refine WpO.nil ?_
      refine WpC.ret ?_
      try simp only [blockQ, seqQ]
      refine retD_i (by simp -implicitDefEqProofs [c17, g39, hil, hp] <;> rfl) (by simp -implicitDefEqProofs [c17, g39, hil, hp] <;> rfl) ?_
      simp [hR, srchB, hpo]
    · have g39' := g39; first | simp only [dT, dF] at g39' | try simp at g39'
      refine WpO.run tabOk 11 (by simp -implicitDefEqProofs [c17, g39] <;> first | exact ⟨rfl, rfl⟩ | rfl) ?_
      refine WpO.nil ?_
      refine WpC.ret ?_
      try simp only [blockQ, seqQ]
      refine retD_i (by simp -implicitDefEqProofs [c17, g39] <;> rfl) (by simp -implicitDefEqProofs [c17, g39] <;> rfl) ?_
      have : l[i]? = none := by rw [List.getElem?_eq_none_iff]; simpa using g39
      simp [hR, srchB, this]
theorem bsR_ok (l : List Rec) (frm : Int) (hl : l.length ≤ 1000000000) : Gives Try.prog 39 [.d (encRs l), .d (dI frm), .fn 40 []] (.tup [.d (dI (srch (recCmp frm) l)), .d (.bool (srchB (recCmp frm) l))]) := by
  obtain ⟨R, hR⟩ : ∃ R, srch (recCmp frm) l = R := ⟨_, rfl⟩
  have hR' : bs (ltAt (recCmp frm) l) 0 l.length = R := hR
  refine Gives.enter tabOk Try.func39 rfl (by show 3 ≤ 49; decide) ?_
  simp only [Try.f39]
  refine WpC.seq (WpC.ops tabOk (r := []) (by simp -implicitDefEqProofs <;> rfl) rfl ?_)
  refine WpC.seq (WpC.ops tabOk (r := []) (by simp -implicitDefEqProofs <;> rfl) rfl ?_)
  refine WpC.seq (WpC.ops tabOk (r := []) (by simp -implicitDefEqProofs <;> rfl) rfl ?_)
  refine WpC.seq ?_
  refine WpC.block ?_
  refine WpC.loopM [0, 1, 2, 8] [9, 10] (fun x => x.2 - x.1) ((0, l.length) : Nat × Nat) (fun x => [(9, .d (dI x.1)), (10, .d (dI x.2))]) (fun x => []) (fun x => x.1 ≤ x.2 ∧ x.2 ≤ l.length ∧ bs (ltAt (recCmp frm) l) x.1 x.2 = R) (by simp -implicitDefEqProofs <;> rfl) (Gh.cut' [9, 10, 0, 1, 2, 8] 0 (by simp -implicitDefEqProofs) (by simp -implicitDefEqProofs) rfl (by simp) (by simp) (by simp)) (⟨by simp, by simp, hR'⟩) ?_
  rintro x hi
  simp only [List.cons_append, List.nil_append]
  obtain ⟨i, j⟩ := x
  obtain ⟨h1, h2, h3⟩ := hi
  simp only at h1 h2 h3 ⊢
  refine WpC.seq ?_
  refine WpC.seq (WpC.ops tabOk (r := []) (by simp -implicitDefEqProofs <;> rfl) rfl ?_)
  refine WpC.condR (by simp -implicitDefEqProofs <;> rfl) (by rfl) (fun c17 => ?_) (fun c17 => ?_)
  · have c17' := c17; first | simp only [dT, dF] at c17' | try simp at c17'
    refine WpC.skip ?_
    refine WpC.block ?_
    have hij : i < j := by simpa using c17
    obtain ⟨h, hh⟩ : ∃ h, (i + j) / 2 = h := ⟨_, rfl⟩
    have hsh := shr1 hh (by omega)
    have hhl : h < l.length := by omega
    obtain ⟨p, hp⟩ : ∃ p, l[h] = p := ⟨_, rfl⟩
    have hpo : l[h]? = some p := by rw [List.getElem?_eq_getElem hhl, hp]
    have hL : ltAt (recCmp frm) l h = decide (recCmp frm p < 0) := by simp [ltAt, hpo]
    have hst := bs_step (lt := ltAt (recCmp frm) l) hh hij
    have hw : IntKind.i64.wrap ((h : Int) + 1) = ((h + 1 : Nat) : Int) := by rw [wrapI (by omega) (by omega)]; rfl
    refine WpC.seq (WpC.ops tabOk (r := []) (by simp -implicitDefEqProofs [c17, hsh, hp, hhl, hw] <;> rfl) rfl ?_)
    refine WpC.seq ?_
    refine WpC.region ?_
    refine WpO.run tabOk 6 (by simp -implicitDefEqProofs [c17, hsh, hp, hhl, hw] <;> first | exact ⟨rfl, rfl⟩ | rfl) ?_
    refine WpO.data (by simp) rfl (by simp -implicitDefEqProofs [c17, hsh, hp, hhl, hw] <;> rfl) (by simp -implicitDefEqProofs [c17, hsh, hp, hhl, hw] <;> rfl) (by simp -implicitDefEqProofs [c17, hsh, hp, hhl, hw] <;> rfl) call_40 (by simp) (changeC_ok p frm) (by rfl) (by simp -implicitDefEqProofs [c17, hsh, hp, hhl, hw] <;> rfl) ?_
    refine WpO.run tabOk 1 (by simp -implicitDefEqProofs [c17, hsh, hp, hhl, hw] <;> first | exact ⟨rfl, rfl⟩ | rfl) ?_
    refine WpO.nil ?_
    refine WpC.condR (by simp -implicitDefEqProofs [c17, hsh, hp, hhl, hw] <;> rfl) (by rfl) (fun c31 => ?_) (fun c31 => ?_)
    · have c31' := c31; first | simp only [dT, dF] at c31' | try simp at c31'
      refine WpC.ops tabOk (r := []) (by simp -implicitDefEqProofs [c17, hsh, hp, hhl, hw, c31] <;> rfl) rfl ?_
      exact ⟨(h + 1, j), ⟨by simp; omega, h2, by rw [← h3, hst, hL, if_pos c31]⟩, by simp; omega, Gh.cut' [9, 10, 0, 1, 2, 8] 0 (by simp -implicitDefEqProofs [c17, hsh, hp, hhl, hw, c31, c17', c31']) (by simp) rfl (by simp) (by simp) (by simp)⟩
    · have c31' := c31; first | simp only [dT, dF] at c31' | try simp at c31'
      refine WpC.ops tabOk (r := []) (by simp -implicitDefEqProofs [c17, hsh, hp, hhl, hw, c31] <;> rfl) rfl ?_
      exact ⟨(i, h), ⟨by simp; omega, by simp; omega, by rw [← h3, hst, hL, if_neg (by rw [c31]; simp)]⟩, by simp; omega, Gh.cut' [9, 10, 0, 1, 2, 8] 0 (by simp -implicitDefEqProofs [c17, hsh, hp, hhl, hw, c31, c17', c31']) (by simp) rfl (by simp) (by simp) (by simp)⟩
  · have c17' := c17; first | simp only [dT, dF] at c17' | try simp at c17'
    refine WpC.exit ?_
    refine WpC.seq ?_
    have hij : ¬ i < j := by simpa using c17
    have hie : i = j := by omega
    subst hie
    rw [bs_end hij] at h3
    subst h3
    refine WpC.region ?_
    refine WpO.run tabOk 5 (by simp -implicitDefEqProofs [c17] <;> first | exact ⟨rfl, rfl⟩ | rfl) ?_
    refine WpO.splitB 39 (by simp -implicitDefEqProofs [c17] <;> rfl) (by rfl) (fun g39 => ?_) (fun g39 => ?_)
    · have g39' := g39; first | simp only [dT, dF] at g39' | try simp at g39'
      have hil : i < l.length := by simpa using g39
      obtain ⟨p, hp⟩ : ∃ p, l[i] = p := ⟨_, rfl⟩
      have hpo : l[i]? = some p := by rw [List.getElem?_eq_getElem hil, hp]
      refine WpO.run tabOk 6 (by simp -implicitDefEqProofs [c17, g39, hil, hp] <;> first | exact ⟨rfl, rfl⟩ | rfl) ?_
      refine WpO.data (by simp) rfl (by simp -implicitDefEqProofs [c17, g39, hil, hp] <;> rfl) (by simp -implicitDefEqProofs [c17, g39, hil, hp] <;> rfl) (by simp -implicitDefEqProofs [c17, g39, hil, hp] <;> rfl) call_40 (by simp) (changeC_ok p frm) (by rfl) (by simp -implicitDefEqProofs [c17, g39, hil, hp] <;> rfl) ?_
      refine WpO.run tabOk 4 (by simp -implicitDefEqProofs [c17, g39, hil, hp] <;> first | exact ⟨rfl, rfl⟩ | rfl) ?_
      refine WpO.nil ?_
      refine WpC.ret ?_
      try simp only [blockQ, seqQ]
      refine retD_i (by simp -implicitDefEqProofs [c17, g39, hil, hp] <;> rfl) (by simp -implicitDefEqProofs [c17, g39, hil, hp] <;> rfl) ?_
      simp [hR, srchB, hpo]
    · have g39' := g39; first | simp only [dT, dF] at g39' | try simp at g39'
      refine WpO.run tabOk 11 (by simp -implicitDefEqProofs [c17, g39] <;> first | exact ⟨rfl, rfl⟩ | rfl) ?_
      refine WpO.nil ?_
      refine WpC.ret ?_
      try simp only [blockQ, seqQ]
      refine retD_i (by simp -implicitDefEqProofs [c17, g39] <;> rfl) (by simp -implicitDefEqProofs [c17, g39] <;> rfl) ?_
      have : l[i]? = none := by rw [List.getElem?_eq_none_iff]; simpa using g39
      simp [hR, srchB, this]

theorem find_ok (l : List Per) (id : Int) (hl : l.length ≤ 1000000000) : Gives Try.prog 35 [.d (encM l), .d (dI id)] (.tup [.d (dI (srch (perCmp id) l)), .d (.bool (srchB (perCmp id) l))]) := by
  refine Gives.enter tabOk Try.func35 rfl (by show 2 ≤ 12; decide) ?_
  simp only [Try.f35]
  refine WpC.seq (WpC.ops tabOk (r := []) (by simp -implicitDefEqProofs <;> rfl) rfl ?_)
  refine WpC.seq ?_
  refine WpC.region ?_
  refine WpO.run tabOk 3 (by simp -implicitDefEqProofs <;> first | exact ⟨rfl, rfl⟩ | rfl) ?_
  refine WpO.data (by simp) rfl (by simp -implicitDefEqProofs <;> rfl) (by simp -implicitDefEqProofs <;> rfl) (by simp -implicitDefEqProofs <;> rfl) call_53 (by simp) (bsP_ok l id hl) (by rfl) (by simp -implicitDefEqProofs <;> rfl) ?_
  refine WpO.run tabOk 4 (by simp -implicitDefEqProofs <;> first | exact ⟨rfl, rfl⟩ | rfl) ?_
  refine WpO.nil ?_
  refine WpC.ret ?_
  try simp only [blockQ, seqQ]
  refine retD_i (by simp -implicitDefEqProofs <;> rfl) (by simp -implicitDefEqProofs <;> rfl) ?_
  simp -implicitDefEqProofs

def noPer : Per := ⟨0, 0, 0, [], []⟩
def noRec : Rec := ⟨0, 0, 0, 0, 0, 0, false⟩
attribute [simp] noPer noRec
def findS (l : List Per) (id : Int) : Per × Int := if srchB (perCmp id) l = true then ((l[srch (perCmp id) l]?).getD noPer, 0) else (noPer, 5)
theorem srchB_lt {α : Type} {cmp : α → Int} {l : List α} (h : srchB cmp l = true) : srch cmp l < l.length := by
  unfold srchB at h
  split at h
  · rename_i x hx; exact (List.getElem?_eq_some_iff.1 hx).1
  · cases h
theorem findP_ok (l : List Per) (id : Int) (hl : l.length ≤ 1000000000) : Gives Try.prog 23 [.d (encM l), .d (dI id)] (.tup [.d (findS l id).1.enc, .d (dI (findS l id).2)]) := by
  refine Gives.enter tabOk Try.func23 rfl (by show 2 ≤ 22; decide) ?_
  simp only [Try.f23]
  refine WpC.seq (WpC.ops tabOk (r := []) (by simp -implicitDefEqProofs <;> rfl) rfl ?_)
  refine WpC.seq ?_
  refine WpC.region ?_
  refine WpO.run tabOk 2 (by simp -implicitDefEqProofs <;> first | exact ⟨rfl, rfl⟩ | rfl) ?_
  refine WpO.data (by simp) rfl (by simp -implicitDefEqProofs <;> rfl) (by simp -implicitDefEqProofs <;> rfl) (by simp -implicitDefEqProofs <;> rfl) call_35 (by simp) (find_ok l id hl) (by rfl) (by simp -implicitDefEqProofs <;> rfl) ?_
  refine WpO.run tabOk 5 (by simp -implicitDefEqProofs <;> first | exact ⟨rfl, rfl⟩ | rfl) ?_
  refine WpO.nil ?_
  refine WpC.seq ?_
  refine WpC.seq (WpC.ops tabOk (r := []) (by simp -implicitDefEqProofs <;> rfl) rfl ?_)
  refine WpC.condR (by simp -implicitDefEqProofs <;> rfl) (by rfl) (fun c15 => ?_) (fun c15 => ?_)
  · have c15' := c15; first | simp only [dT, dF] at c15' | try simp at c15'
    refine WpC.seq (WpC.ops tabOk (r := []) (by simp -implicitDefEqProofs [c15] <;> rfl) rfl ?_)
    refine WpC.ret ?_
    try simp only [blockQ, seqQ]
    refine retD_i (by simp -implicitDefEqProofs [c15] <;> rfl) (by simp -implicitDefEqProofs [c15] <;> rfl) ?_
    simp [findS, c15', noPer]
  · have c15' := c15; first | simp only [dT, dF] at c15' | try simp at c15'
    have hlt := srchB_lt (show srchB (perCmp id) l = true by simpa using c15)
    obtain ⟨p, hp⟩ : ∃ p, l[srch (perCmp id) l] = p := ⟨_, rfl⟩
    refine WpC.skip ?_
    refine WpC.seq (WpC.ops tabOk (r := []) (by simp -implicitDefEqProofs [c15, hlt, hp] <;> rfl) rfl ?_)
    refine WpC.ret ?_
    try simp only [blockQ, seqQ]
    refine retD_i (by simp -implicitDefEqProofs [c15, hlt, hp] <;> rfl) (by simp -implicitDefEqProofs [c15, hlt, hp] <;> rfl) ?_
    have h1 : srchB (perCmp id) l = true := by simpa using c15
    simp [findS, h1, hlt, hp]

def onStep (when : Int) (o r : Rec) : Rec := if r.frm ≤ when then r else o
def atS (l : List Per) (id when : Int) : Rec × Int :=
  if (findS l id).2 ≠ 0 ∨ when < (findS l id).1.hired ∨ ((findS l id).1.gone ≠ 0 ∧ (findS l id).1.gone ≤ when) then (noRec, 5) else ((findS l id).1.recs.foldl (onStep when) ((findS l id).1.recs.headD noRec), 0)
theorem findS_ok {l : List Per} {id : Int} (h : (findS l id).2 = 0) : (findS l id).1 ∈ l := by
  unfold findS at h ⊢
  split at h
  · rename_i hb
    rw [if_pos hb]
    have hlt := srchB_lt hb
    rw [List.getElem?_eq_getElem hlt]
    exact List.getElem_mem hlt
  · simp at h
theorem at_ok (l : List Per) (id when : Int) (hl : l.length ≤ 1000000000) (hr : ∀ p ∈ l, p.recs ≠ [] ∧ p.recs.length ≤ 1000000000) : Gives Try.prog 22 [.d (encM l), .d (dI id), .d (dI when)] (.tup [.d (atS l id when).1.enc, .d (dI (atS l id when).2)]) := by
  obtain ⟨p, hp⟩ : ∃ p, (findS l id).1 = p := ⟨_, rfl⟩
  obtain ⟨e, he⟩ : ∃ e, (findS l id).2 = e := ⟨_, rfl⟩
  have hf := findP_ok l id hl
  rw [hp, he] at hf
  have hat : atS l id when = if e ≠ 0 ∨ when < p.hired ∨ (p.gone ≠ 0 ∧ p.gone ≤ when) then (noRec, 5) else (p.recs.foldl (onStep when) (p.recs.headD noRec), 0) := by unfold atS; rw [hp, he]
  have hmem : e = 0 → p ∈ l := fun h => hp ▸ findS_ok (he.trans h)
  rw [hat]
  refine Gives.enter tabOk Try.func22 rfl (by show 3 ≤ 57; decide) ?_
  simp only [Try.f22]
  refine WpC.seq (WpC.ops tabOk (r := []) (by simp -implicitDefEqProofs <;> rfl) rfl ?_)
  refine WpC.seq ?_
  refine WpC.region ?_
  refine WpO.run tabOk 2 (by simp -implicitDefEqProofs <;> first | exact ⟨rfl, rfl⟩ | rfl) ?_
  refine WpO.data (by simp) rfl (by simp -implicitDefEqProofs <;> rfl) (by simp -implicitDefEqProofs <;> rfl) (by simp -implicitDefEqProofs <;> rfl) call_23 (by simp) (hf) (by rfl) (by simp -implicitDefEqProofs <;> rfl) ?_
  refine WpO.run tabOk 6 (by simp -implicitDefEqProofs <;> first | exact ⟨rfl, rfl⟩ | rfl) ?_
  refine WpO.nil ?_
  refine WpC.seq ?_
  refine WpC.seq ?_
  refine WpC.val 37 (.d (.bool (decide (e ≠ 0 ∨ when < p.hired ∨ (p.gone ≠ 0 ∧ p.gone ≤ when))))) ?_ ?_
  · refine WpC.region ?_
    refine WpO.run tabOk 3 (by simp -implicitDefEqProofs <;> first | exact ⟨rfl, rfl⟩ | rfl) ?_
    refine WpO.splitB 21 (by simp -implicitDefEqProofs <;> rfl) (by rfl) (fun g21 => ?_) (fun g21 => ?_)
    · have g21' := g21; first | simp only [dT, dF] at g21' | try simp at g21'
      refine WpO.run tabOk 16 (by simp -implicitDefEqProofs [g21] <;> first | exact ⟨rfl, rfl⟩ | rfl) ?_
      refine WpO.nil ?_
      refine ⟨rfl, Gh.only 37 20 ?_ (by first | rfl | simp -implicitDefEqProofs [g21]) (by rfl)⟩
      simp -implicitDefEqProofs [g21, g21', Classical.not_imp]
    · have g21' := g21; first | simp only [dT, dF] at g21' | try simp at g21'
      refine WpO.run tabOk 6 (by simp -implicitDefEqProofs [g21] <;> first | exact ⟨rfl, rfl⟩ | rfl) ?_
      refine WpO.splitB 27 (by simp -implicitDefEqProofs [g21] <;> rfl) (by rfl) (fun g27 => ?_) (fun g27 => ?_)
      · have g27' := g27; first | simp only [dT, dF] at g27' | try simp at g27'
        refine WpO.run tabOk 10 (by simp -implicitDefEqProofs [g21, g27] <;> first | exact ⟨rfl, rfl⟩ | rfl) ?_
        refine WpO.nil ?_
        refine ⟨rfl, Gh.only 37 21 ?_ (by first | rfl | simp -implicitDefEqProofs [g21, g27]) (by rfl)⟩
        simp -implicitDefEqProofs [g21, g27, g21', g27', Classical.not_imp]
      · have g27' := g27; first | simp only [dT, dF] at g27' | try simp at g27'
        refine WpO.run tabOk 4 (by simp -implicitDefEqProofs [g21, g27] <;> first | exact ⟨rfl, rfl⟩ | rfl) ?_
        refine WpO.splitB 31 (by simp -implicitDefEqProofs [g21, g27] <;> rfl) (by rfl) (fun g31 => ?_) (fun g31 => ?_)
        · have g31' := g31; first | simp only [dT, dF] at g31' | try simp at g31'
          refine WpO.run tabOk 6 (by simp -implicitDefEqProofs [g21, g27, g31] <;> first | exact ⟨rfl, rfl⟩ | rfl) ?_
          refine WpO.nil ?_
          refine ⟨rfl, Gh.only 37 22 ?_ (by first | rfl | simp -implicitDefEqProofs [g21, g27, g31]) (by rfl)⟩
          simp -implicitDefEqProofs [g21, g27, g31, g21', g27', g31', Classical.not_imp]
        · have g31' := g31; first | simp only [dT, dF] at g31' | try simp at g31'
          refine WpO.run tabOk 6 (by simp -implicitDefEqProofs [g21, g27, g31] <;> first | exact ⟨rfl, rfl⟩ | rfl) ?_
          refine WpO.nil ?_
          refine ⟨rfl, Gh.only 37 22 ?_ (by first | rfl | simp -implicitDefEqProofs [g21, g27, g31]) (by rfl)⟩
          simp -implicitDefEqProofs [g21, g27, g31, g21', g27', g31', Classical.not_imp]
  refine WpC.condD (e ≠ 0 ∨ when < p.hired ∨ (p.gone ≠ 0 ∧ p.gone ≤ when)) (by simp -implicitDefEqProofs) (fun d37 => ?_) (fun d37 => ?_)
  · refine WpC.seq (WpC.ops tabOk (r := []) (by simp -implicitDefEqProofs [d37] <;> rfl) rfl ?_)
    refine WpC.ret ?_
    try simp only [blockQ, seqQ]
    refine retD_i (by simp -implicitDefEqProofs [d37] <;> rfl) (by simp -implicitDefEqProofs [d37] <;> rfl) ?_
    simp [d37]
  · have hm := hmem (by omega)
    obtain ⟨h1, h2⟩ := hr p hm
    obtain ⟨r0, h0, hr0, hd0⟩ : ∃ r0, ∃ h0 : 0 < p.recs.length, p.recs[0] = r0 ∧ p.recs.headD noRec = r0 := by cases hp : p.recs with | nil => exact absurd hp h1 | cons a b => exact ⟨a, by simp, rfl, rfl⟩
    refine WpC.skip ?_
    refine WpC.seq (WpC.ops tabOk (r := []) (by simp -implicitDefEqProofs [d37, h0, hr0] <;> rfl) rfl ?_)
    refine WpC.seq ?_
    refine WpC.seq (WpC.ops tabOk (r := []) (by simp -implicitDefEqProofs [d37, h0, hr0] <;> rfl) rfl ?_)
    refine WpC.block ?_
    refine WpC.loopK [2, 6, 10, 44, 45] [46] (p.recs.length) (r0 : Rec) (fun k a => [(46, .d (.int .i64 k))]) (fun k a => [.cells 57 [.d (encPes l)], .cells 63 (noRec.cs.map .d), .cells 68 (p.cs.map .d), .cells 63 (a.cs.map .d)]) (fun k a => (p.recs.take k).foldl (onStep when) r0 = a) (by simp -implicitDefEqProofs [d37, h0, hr0] <;> rfl) (Gh.cut' [46, 2, 6, 10, 44, 45] 4 (by simp -implicitDefEqProofs [d37, h0, hr0]) (by simp -implicitDefEqProofs [d37, h0, hr0]) rfl (by simp) (by simp) (by simp)) (by simp) ?_
    rintro k a hk hi
    simp only [List.cons_append, List.nil_append]
    refine WpC.seq (WpC.ops tabOk (r := []) (by simp -implicitDefEqProofs [d37, h0, hr0] <;> rfl) rfl ?_)
    refine WpC.seq (WpC.condD (k < p.recs.length) (by simp -implicitDefEqProofs [d37, h0, hr0] <;> omega) (fun hlt => ?_) (fun hge => ?_))
    · refine WpC.skip ?_
      have hst := foldl_take (onStep when) r0 hlt
      obtain ⟨q, hq⟩ : ∃ q, p.recs[k] = q := ⟨_, rfl⟩
      have hw : IntKind.i64.wrap ((k : Int) + 1) = k + 1 := wrapI (by omega) (by omega)
      rw [hq, hi] at hst
      refine WpC.seq ?_
      refine WpC.block ?_
      refine WpC.seq (WpC.ops tabOk (r := []) (by simp -implicitDefEqProofs [d37, h0, hr0, hlt, hq, hw] <;> rfl) rfl ?_)
      refine WpC.seq (WpC.ops tabOk (r := []) (by simp -implicitDefEqProofs [d37, h0, hr0, hlt, hq, hw] <;> rfl) rfl ?_)
      refine WpC.condR (by simp -implicitDefEqProofs [d37, h0, hr0, hlt, hq, hw] <;> rfl) (by rfl) (fun c53 => ?_) (fun c53 => ?_)
      · have c53' := c53; first | simp only [dT, dF] at c53' | try simp at c53'
        refine WpC.ops tabOk (r := []) (by simp -implicitDefEqProofs [d37, h0, hr0, hlt, hq, hw, c53] <;> rfl) rfl ?_
        refine WpC.ops tabOk (r := []) (by simp -implicitDefEqProofs [d37, h0, hr0, hlt, hq, hw, c53] <;> rfl) rfl ?_
        exact ⟨hlt, _, hst, Gh.cut' [46, 2, 6, 10, 44, 45] 4 (by simp -implicitDefEqProofs [d37, h0, hr0, hlt, hq, hw, c53, c53', onStep]) (by simp -implicitDefEqProofs [d37, h0, hr0, hlt, hq, hw, c53, c53', onStep]) rfl (by simp) (by simp) (by simp)⟩
      · have c53' := c53; first | simp only [dT, dF] at c53' | try simp at c53'
        refine WpC.skip ?_
        refine WpC.ops tabOk (r := []) (by simp -implicitDefEqProofs [d37, h0, hr0, hlt, hq, hw, c53] <;> rfl) rfl ?_
        exact ⟨hlt, _, hst, Gh.cut' [46, 2, 6, 10, 44, 45] 4 (by simp -implicitDefEqProofs [d37, h0, hr0, hlt, hq, hw, c53, c53', onStep]) (by simp -implicitDefEqProofs [d37, h0, hr0, hlt, hq, hw, c53, c53', onStep]) rfl (by simp) (by simp) (by simp)⟩
    · refine WpC.exit ?_
      have hkn : k = p.recs.length := by omega
      subst hkn
      refine WpC.seq (WpC.ops tabOk (r := []) (by simp -implicitDefEqProofs [d37, h0, hr0] <;> rfl) rfl ?_)
      refine WpC.ret ?_
      try simp only [blockQ, seqQ]
      refine retD_i (by simp -implicitDefEqProofs [d37, h0, hr0] <;> rfl) (by simp -implicitDefEqProofs [d37, h0, hr0] <;> rfl) ?_
      rw [if_neg d37, hd0, ← hi]; simp

def staffS (l : List Per) (when : Int) : List Int := (l.filter fun p => decide ((atS l p.id when).2 = 0)).map Per.id
theorem filter_take {α : Type} (f : α → Bool) {l : List α} {k : Nat} (h : k < l.length) : (l.take (k + 1)).filter f = (l.take k).filter f ++ (if f l[k] = true then [l[k]] else []) := by
  rw [List.take_add_one, List.getElem?_eq_getElem h]
  simp only [Option.toList_some, List.filter_append]
  congr 1
  by_cases hf : f l[k] = true <;> simp [hf]
theorem staff_ok (l : List Per) (when : Int) (hl : l.length ≤ 1000000000) (hr : ∀ p ∈ l, p.recs ≠ [] ∧ p.recs.length ≤ 1000000000) : Gives Try.prog 24 [.d (encM l), .d (dI when)] (.d (.list 1 ((staffS l when).map dI))) := by
  obtain ⟨f, hf⟩ : ∃ f : Per → Bool, (fun p : Per => decide ((atS l p.id when).2 = 0)) = f := ⟨_, rfl⟩
  have hff : ∀ p : Per, f p = decide ((atS l p.id when).2 = 0) := fun p => by rw [← hf]
  unfold staffS
  rw [hf]
  refine Gives.enter tabOk Try.func24 rfl (by show 2 ≤ 34; decide) ?_
  simp only [Try.f24]
  refine WpC.seq (WpC.ops tabOk (r := []) (by simp -implicitDefEqProofs <;> rfl) rfl ?_)
  refine WpC.seq (WpC.ops tabOk (r := []) (by simp -implicitDefEqProofs <;> rfl) rfl ?_)
  refine WpC.seq ?_
  refine WpC.gh (Gh.nilArr 3 1 (t := 5) (by simp) (by simp)) ?_
  refine WpC.seq (WpC.ops tabOk (r := []) (by simp -implicitDefEqProofs <;> rfl) rfl ?_)
  refine WpC.block ?_
  refine WpC.loopK [1, 2, 11, 12] [5, 13] (l.length) ([] : List Per) (fun k a => [(5, .sl 1 a.length), (13, .d (.int .i64 k))]) (fun k a => [.cells 57 [.d (encPes l)], .arr 3 1 (a.map fun p => dI p.id)]) (fun k a => (l.take k).filter f = a ∧ a.length ≤ k) (by simp -implicitDefEqProofs <;> rfl) (Gh.cut' [5, 13, 1, 2, 11, 12] 2 (by simp -implicitDefEqProofs) (by simp -implicitDefEqProofs) rfl (by simp) (by simp) (by simp)) (⟨by simp, by simp⟩) ?_
  rintro k a hk hi
  simp only [List.cons_append, List.nil_append]
  refine WpC.seq (WpC.ops tabOk (r := []) (by simp -implicitDefEqProofs <;> rfl) rfl ?_)
  refine WpC.seq (WpC.condD (k < l.length) (by simp -implicitDefEqProofs <;> omega) (fun hlt => ?_) (fun hge => ?_))
  · refine WpC.skip ?_
    obtain ⟨hi, hak⟩ := hi
    have hst := filter_take f hlt
    obtain ⟨p, hp⟩ : ∃ p, l[k] = p := ⟨_, rfl⟩
    have hw : IntKind.i64.wrap ((k : Int) + 1) = k + 1 := wrapI (by omega) (by omega)
    rw [hp, hi, hff] at hst
    have hal : a.length ≤ 8589934591 := by omega
    refine WpC.seq ?_
    refine WpC.block ?_
    refine WpC.seq (WpC.ops tabOk (r := []) (by simp -implicitDefEqProofs [hlt, hp, hw, hal] <;> rfl) rfl ?_)
    refine WpC.seq ?_
    refine WpC.region ?_
    refine WpO.run tabOk 4 (by simp -implicitDefEqProofs [hlt, hp, hw, hal] <;> first | exact ⟨rfl, rfl⟩ | rfl) ?_
    refine WpO.data (by simp) rfl (by simp -implicitDefEqProofs [hlt, hp, hw, hal] <;> rfl) (by simp -implicitDefEqProofs [hlt, hp, hw, hal] <;> rfl) (by simp -implicitDefEqProofs [hlt, hp, hw, hal] <;> rfl) call_22 (by simp) (at_ok l p.id when hl hr) (by rfl) (by simp -implicitDefEqProofs [hlt, hp, hw, hal] <;> rfl) ?_
    refine WpO.run tabOk 6 (by simp -implicitDefEqProofs [hlt, hp, hw, hal] <;> first | exact ⟨rfl, rfl⟩ | rfl) ?_
    refine WpO.nil ?_
    refine WpC.seq (WpC.ops tabOk (r := []) (by simp -implicitDefEqProofs [hlt, hp, hw, hal] <;> rfl) rfl ?_)
    refine WpC.condR (by simp -implicitDefEqProofs [hlt, hp, hw, hal] <;> rfl) (by rfl) (fun c26 => ?_) (fun c26 => ?_)
    · have c26' := c26; first | simp only [dT, dF] at c26' | try simp at c26'
      refine WpC.ops tabOk (r := []) (by simp -implicitDefEqProofs [hlt, hp, hw, hal, c26] <;> rfl) rfl ?_
      refine WpC.ops tabOk (r := []) (by simp -implicitDefEqProofs [hlt, hp, hw, hal, c26] <;> rfl) rfl ?_
      exact ⟨hlt, a ++ [p], ⟨by rw [hst]; simp [c26'], by simp; omega⟩, Gh.pick [5, 13, 1, 2, 11, 12] [0, 5] (by simp -implicitDefEqProofs [hlt, hp, hw, hal, c26, c26']; rfl) (by simp -implicitDefEqProofs [hlt, hp, hw, hal, c26, c26']) (by simp) (by simp) (by simp; rfl) (by simp -implicitDefEqProofs [hlt, hp, hw, hal, c26, c26']) (by simp)⟩
    · have c26' := c26; first | simp only [dT, dF] at c26' | try simp at c26'
      refine WpC.skip ?_
      refine WpC.ops tabOk (r := []) (by simp -implicitDefEqProofs [hlt, hp, hw, hal, c26] <;> rfl) rfl ?_
      exact ⟨hlt, a, ⟨by rw [hst]; simp [c26'], by omega⟩, Gh.cut' [5, 13, 1, 2, 11, 12] 2 (by simp -implicitDefEqProofs [hlt, hp, hw, hal, c26, c26']) (by simp -implicitDefEqProofs [hlt, hp, hw, hal, c26, c26']) rfl (by simp) (by simp) (by simp)⟩
  · refine WpC.exit ?_
    have hkn : k = l.length := by omega
    subst hkn
    obtain ⟨hi, _⟩ := hi
    rw [List.take_of_length_le (Nat.le_refl _)] at hi
    refine WpC.seq (WpC.ops tabOk (r := []) (by simp -implicitDefEqProofs <;> rfl) rfl ?_)
    refine WpC.ret ?_
    try simp only [blockQ, seqQ]
    refine retD_i (by simp -implicitDefEqProofs <;> rfl) (by simp -implicitDefEqProofs <;> rfl) ?_
    rw [hi]; simp
end Go.Proofs.Ytndofikacmhejaa.Pay
