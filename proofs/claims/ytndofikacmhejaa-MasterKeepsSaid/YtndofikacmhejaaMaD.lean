/- What master's functions give: a person turned, gone, claimed of. No statement of the seed is proved here. -/
import Derived.Test.YtndofikacmhejaaMaC
namespace Go.Proofs.Ytndofikacmhejaa.Pay
open Go Go.Proofs
set_option linter.unusedVariables false
set_option maxHeartbeats 4000000
set_option linter.unusedSimpArgs false

theorem map_set_agg {α : Type} (f : α → List D) (l : List α) (i : Nat) (x : α) : (l.map fun a => D.agg (f a)).set i (.agg (f x)) = (l.set i x).map fun a => D.agg (f a) := by
  rw [List.map_set]
theorem with_ok (l : List Per) (i : Nat) (p : Per) (hl : l.length ≤ 1000000000) (hi : i < l.length) : Gives Try.prog 43 [.d (encM l), .d (dI i), .d p.enc] (.d (encM (l.set i p))) := by
  obtain ⟨q, hq⟩ : ∃ q, l[i] = q := ⟨_, rfl⟩
  refine Gives.enter tabOk Try.func43 rfl (by show 3 ≤ 18; decide) ?_
  simp only [Try.f43]
  refine WpC.seq (WpC.ops tabOk (r := []) (by simp -implicitDefEqProofs [hi, hq] <;> rfl) rfl ?_)
  refine WpC.seq ?_
  refine WpC.region ?_
  refine WpO.run tabOk 2 (by simp -implicitDefEqProofs [hi, hq] <;> first | exact ⟨rfl, rfl⟩ | rfl) ?_
  refine WpO.callP [] (by simp) rfl (by simp -implicitDefEqProofs [hi, hq] <;> rfl) (by simp -implicitDefEqProofs [hi, hq] <;> rfl) call_38 (by simp) (by simp) (by simp) (by simp -implicitDefEqProofs [hi, hq]) (by simp; rfl) (by simp -implicitDefEqProofs [hi, hq]) ( cloneP_ok (l.map Per.enc) (by simpa using hl)) fun r S1 hr => ?_
  obtain ⟨rfl, rfl⟩ := hr
  refine ⟨_, by simp -implicitDefEqProofs [hi, hq] <;> rfl, ?_⟩
  refine WpO.run tabOk 3 (by simp -implicitDefEqProofs [hi, hq] <;> first | exact ⟨rfl, rfl⟩ | rfl) ?_
  refine WpO.nil ?_
  refine WpC.seq (WpC.ops tabOk (r := []) (by simp -implicitDefEqProofs [hi, hq] <;> rfl) rfl ?_)
  refine WpC.seq (WpC.ops tabOk (r := []) (by simp -implicitDefEqProofs [hi, hq] <;> rfl) rfl ?_)
  refine WpC.ret ?_
  try simp only [blockQ, seqQ]
  refine retD_i (by simp -implicitDefEqProofs [hi, hq] <;> rfl) (by simp -implicitDefEqProofs [hi, hq] <;> rfl) ?_
  simp

def goneS (l : List Per) (id when : Int) : List Per × Int :=
  if srchB (perCmp id) l = false then (l, 5) else if periodB when = false ∨ when ≤ ((l[srch (perCmp id) l]?).getD noPer).hired then (l, 1) else
    (l.set (srch (perCmp id) l) { (l[srch (perCmp id) l]?).getD noPer with gone := when }, 0)
theorem leave_ok (l : List Per) (id when : Int) (hl : l.length ≤ 1000000000) : Gives Try.prog 25 [.d (encM l), .d (dI id), .d (dI when)] (.tup [.d (encM (goneS l id when).1), .d (dI (goneS l id when).2)]) := by
  obtain ⟨i, hi⟩ : ∃ i, srch (perCmp id) l = i := ⟨_, rfl⟩
  obtain ⟨b, hb⟩ : ∃ b, srchB (perCmp id) l = b := ⟨_, rfl⟩
  have hf := find_ok l id hl
  rw [hi, hb] at hf
  have hlt : b = true → i < l.length := fun h => hi ▸ srchB_lt (hb.trans h)
  unfold goneS
  rw [hi, hb]
  refine Gives.enter tabOk Try.func25 rfl (by show 3 ≤ 47; decide) ?_
  simp only [Try.f25]
  refine WpC.seq (WpC.ops tabOk (r := []) (by simp -implicitDefEqProofs <;> rfl) rfl ?_)
  refine WpC.seq ?_
  refine WpC.region ?_
  refine WpO.run tabOk 2 (by simp -implicitDefEqProofs <;> first | exact ⟨rfl, rfl⟩ | rfl) ?_
  refine WpO.data (by simp) rfl (by simp -implicitDefEqProofs <;> rfl) (by simp -implicitDefEqProofs <;> rfl) (by simp -implicitDefEqProofs <;> rfl) call_35 (by simp) (hf) (by rfl) (by simp -implicitDefEqProofs <;> rfl) ?_
  refine WpO.run tabOk 5 (by simp -implicitDefEqProofs <;> first | exact ⟨rfl, rfl⟩ | rfl) ?_
  refine WpO.nil ?_
  refine WpC.seq ?_
  refine WpC.block ?_
  refine WpC.seq (WpC.ops tabOk (r := []) (by simp -implicitDefEqProofs <;> rfl) rfl ?_)
  refine WpC.condR (by simp -implicitDefEqProofs <;> rfl) (by rfl) (fun c17 => ?_) (fun c17 => ?_)
  · have c17' := c17; first | simp only [dT, dF] at c17' | try simp at c17'
    refine WpC.seq (WpC.ops tabOk (r := []) (by simp -implicitDefEqProofs [c17] <;> rfl) rfl ?_)
    refine WpC.ret ?_
    try simp only [blockQ, seqQ]
    refine retD_i (by simp -implicitDefEqProofs [c17] <;> rfl) (by simp -implicitDefEqProofs [c17] <;> rfl) ?_
    simp [c17']
  · have c17' := c17; first | simp only [dT, dF] at c17' | try simp at c17'
    have hb1 : b = true := by simpa using c17
    have hil := hlt hb1
    obtain ⟨q, hq⟩ : ∃ q, l[i] = q := ⟨_, rfl⟩
    have hgq : (l[i]?).getD noPer = q := by rw [List.getElem?_eq_getElem hil, hq]; rfl
    refine WpC.seq ?_
    refine WpC.val 21 (.d (.bool (decide (periodB when = false ∨ when ≤ q.hired)))) ?_ ?_
    · refine WpC.region ?_
      refine WpO.run tabOk 1 (by simp -implicitDefEqProofs [c17, hil, hq] <;> first | exact ⟨rfl, rfl⟩ | rfl) ?_
      refine WpO.data (by simp) rfl (by simp -implicitDefEqProofs [c17, hil, hq] <;> rfl) (by simp -implicitDefEqProofs [c17, hil, hq] <;> rfl) (by simp -implicitDefEqProofs [c17, hil, hq] <;> rfl) call_44 (by simp) (period_ok when) (by rfl) (by simp -implicitDefEqProofs [c17, hil, hq] <;> rfl) ?_
      refine WpO.run tabOk 2 (by simp -implicitDefEqProofs [c17, hil, hq] <;> first | exact ⟨rfl, rfl⟩ | rfl) ?_
      refine WpO.splitB 25 (by simp -implicitDefEqProofs [c17, hil, hq] <;> rfl) (by rfl) (fun g25 => ?_) (fun g25 => ?_)
      · have g25' := g25; first | simp only [dT, dF] at g25' | try simp at g25'
        refine WpO.run tabOk 10 (by simp -implicitDefEqProofs [c17, hil, hq, g25] <;> first | exact ⟨rfl, rfl⟩ | rfl) ?_
        refine WpO.nil ?_
        refine ⟨rfl, Gh.only 21 15 ?_ (by first | rfl | simp -implicitDefEqProofs [c17, hil, hq, g25]) (by rfl)⟩
        simp -implicitDefEqProofs [c17, hil, hq, g25, g25']
      · have g25' := g25; first | simp only [dT, dF] at g25' | try simp at g25'
        refine WpO.run tabOk 10 (by simp -implicitDefEqProofs [c17, hil, hq, g25] <;> first | exact ⟨rfl, rfl⟩ | rfl) ?_
        refine WpO.nil ?_
        refine ⟨rfl, Gh.only 21 15 ?_ (by first | rfl | simp -implicitDefEqProofs [c17, hil, hq, g25]) (by rfl)⟩
        simp -implicitDefEqProofs [c17, hil, hq, g25, g25']
    refine WpC.condD (periodB when = false ∨ when ≤ q.hired) (by simp -implicitDefEqProofs [c17, hil, hq]) (fun d21 => ?_) (fun d21 => ?_)
    · refine WpC.seq (WpC.ops tabOk (r := []) (by simp -implicitDefEqProofs [c17, hil, hq, d21] <;> rfl) rfl ?_)
      refine WpC.ret ?_
      try simp only [blockQ, seqQ]
      refine retD_i (by simp -implicitDefEqProofs [c17, hil, hq, d21] <;> rfl) (by simp -implicitDefEqProofs [c17, hil, hq, d21] <;> rfl) ?_
      simp [hb1, d21, hil, hq]
    · refine WpC.skip ?_
      refine WpC.seq (WpC.ops tabOk (r := []) (by simp -implicitDefEqProofs [c17, hil, hq, d21] <;> rfl) rfl ?_)
      refine WpC.seq (WpC.ops tabOk (r := []) (by simp -implicitDefEqProofs [c17, hil, hq, d21] <;> rfl) rfl ?_)
      refine WpC.seq ?_
      refine WpC.region ?_
      refine WpO.run tabOk 3 (by simp -implicitDefEqProofs [c17, hil, hq, d21] <;> first | exact ⟨rfl, rfl⟩ | rfl) ?_
      refine WpO.data (by simp) rfl (by simp -implicitDefEqProofs [c17, hil, hq, d21] <;> rfl) (by simp -implicitDefEqProofs [c17, hil, hq, d21] <;> rfl) (by simp -implicitDefEqProofs [c17, hil, hq, d21] <;> rfl) call_43 (by simp) (with_ok l i { q with gone := when } hl hil) (by rfl) (by simp -implicitDefEqProofs [c17, hil, hq, d21] <;> rfl) ?_
      refine WpO.run tabOk 2 (by simp -implicitDefEqProofs [c17, hil, hq, d21] <;> first | exact ⟨rfl, rfl⟩ | rfl) ?_
      refine WpO.nil ?_
      refine WpC.ret ?_
      try simp only [blockQ, seqQ]
      refine retD_i (by simp -implicitDefEqProofs [c17, hil, hq, d21] <;> rfl) (by simp -implicitDefEqProofs [c17, hil, hq, d21] <;> rfl) ?_
      simp [hb1, d21, hil, hq]

theorem claimC_ok (x o : Ord) : Gives Try.prog 46 [.d x.enc, .dp o.cs] (.d (.bool (decide (x.cred = o.cred)))) := by
  refine Gives.enter tabOk Try.func46 rfl (by show 2 ≤ 9; decide) ?_
  simp only [Try.f46]
  refine WpC.seq (WpC.ops tabOk (r := []) (by simp -implicitDefEqProofs <;> rfl) rfl ?_)
  refine WpC.seq (WpC.ops tabOk (r := []) (by simp -implicitDefEqProofs <;> rfl) rfl ?_)
  refine WpC.ret ?_
  try simp only [blockQ, seqQ]
  refine retD_i (by simp -implicitDefEqProofs <;> rfl) (by simp -implicitDefEqProofs <;> rfl) ?_
  simp

def idxP {α : Type} (f : α → Bool) (l : List α) : Int := match l.findIdx? f with | some i => i | none => -1
theorem find_take {α : Type} (f : α → Bool) {l : List α} {k : Nat} (h : k < l.length) (h0 : (l.take k).any f = false) (h1 : f l[k] = true) : l.findIdx? f = some k := by
  rw [List.findIdx?_eq_some_iff_getElem]
  refine ⟨h, h1, fun j hj => ?_⟩
  rw [List.any_eq_false] at h0
  refine h0 _ ?_
  rw [List.mem_take_iff_getElem]
  exact ⟨j, by omega, rfl⟩
theorem any_take {α : Type} (f : α → Bool) {l : List α} {k : Nat} (h : k < l.length) : (l.take (k + 1)).any f = ((l.take k).any f || f l[k]) := by
  rw [List.take_add_one, List.getElem?_eq_getElem h]; simp only [Option.toList_some, List.any_append, List.any_cons, List.any_nil, Bool.or_false]

theorem indexO_ok (l : List Ord) (o : Ord) (hl : l.length ≤ 1000000000) : Gives Try.prog 59 [.d (encOs l), .fn 46 [.dp o.cs]] (.d (dI (idxP (fun x => decide (x.cred = o.cred)) l))) := by
  obtain ⟨f, hf⟩ : ∃ f : Ord → Bool, (fun x : Ord => decide (x.cred = o.cred)) = f := ⟨_, rfl⟩
  have hff : ∀ x : Ord, decide (x.cred = o.cred) = f x := fun x => by rw [← hf]
  rw [hf]
  refine Gives.enter tabOk Try.func59 rfl (by show 2 ≤ 19; decide) ?_
  simp only [Try.f59]
  refine WpC.seq (WpC.ops tabOk (r := []) (by simp -implicitDefEqProofs <;> rfl) rfl ?_)
  refine WpC.seq ?_
  refine WpC.seq (WpC.ops tabOk (r := []) (by simp -implicitDefEqProofs <;> rfl) rfl ?_)
  refine WpC.block ?_
  refine WpC.loopK [0, 1, 7] [8] (l.length) (() : Unit) (fun k _ => [(8, .d (.int .i64 k))]) (fun k _ => []) (fun k _ => (l.take k).any f = false) (by simp -implicitDefEqProofs <;> rfl) (Gh.cut' [8, 0, 1, 7] 0 (by simp -implicitDefEqProofs) (by simp -implicitDefEqProofs) rfl (by simp) (by simp) (by simp)) (by simp) ?_
  rintro k ⟨⟩ hk hi
  simp only [List.cons_append, List.nil_append]
  refine WpC.seq (WpC.ops tabOk (r := []) (by simp -implicitDefEqProofs <;> rfl) rfl ?_)
  refine WpC.seq (WpC.condD (k < l.length) (by simp -implicitDefEqProofs <;> omega) (fun hlt => ?_) (fun hge => ?_))
  · refine WpC.skip ?_
    have hst := any_take f hlt
    obtain ⟨x, hx⟩ : ∃ x, l[k] = x := ⟨_, rfl⟩
    have hw : IntKind.i64.wrap ((k : Int) + 1) = k + 1 := wrapI (by omega) (by omega)
    have hfi := find_take f hlt hi
    rw [hi, hx] at hst
    rw [hx] at hfi
    refine WpC.seq ?_
    refine WpC.block ?_
    refine WpC.seq (WpC.ops tabOk (r := []) (by simp -implicitDefEqProofs [hlt, hx, hw] <;> rfl) rfl ?_)
    refine WpC.seq ?_
    refine WpC.region ?_
    refine WpO.run tabOk 5 (by simp -implicitDefEqProofs [hlt, hx, hw] <;> first | exact ⟨rfl, rfl⟩ | rfl) ?_
    refine WpO.data (by simp) rfl (by simp -implicitDefEqProofs [hlt, hx, hw] <;> rfl) (by simp -implicitDefEqProofs [hlt, hx, hw] <;> rfl) (by simp -implicitDefEqProofs [hlt, hx, hw] <;> rfl) call_46 (by simp) (claimC_ok x o) (by rfl) (by simp -implicitDefEqProofs [hlt, hx, hw] <;> rfl) ?_
    refine WpO.nil ?_
    refine WpC.condR (by simp -implicitDefEqProofs [hlt, hx, hw] <;> rfl) (by rfl) (fun c16 => ?_) (fun c16 => ?_)
    · have c16' := c16; first | simp only [dT, dF] at c16' | try simp at c16'
      refine WpC.seq (WpC.ops tabOk (r := []) (by simp -implicitDefEqProofs [hlt, hx, hw, c16] <;> rfl) rfl ?_)
      refine WpC.ret ?_
      try simp only [blockQ, seqQ]
      refine retD_i (by simp -implicitDefEqProofs [hlt, hx, hw, c16] <;> rfl) (by simp -implicitDefEqProofs [hlt, hx, hw, c16] <;> rfl) ?_
      have := hfi (by rw [← hff]; simpa using c16)
      simp [idxP, this]
    · have c16' := c16; first | simp only [dT, dF] at c16' | try simp at c16'
      refine WpC.skip ?_
      refine WpC.ops tabOk (r := []) (by simp -implicitDefEqProofs [hlt, hx, hw, c16] <;> rfl) rfl ?_
      exact ⟨hlt, (), by rw [hst, ← hff]; simpa using c16, Gh.cut' [8, 0, 1, 7] 0 (by simp -implicitDefEqProofs [hlt, hx, hw, c16, c16']) (by simp) rfl (by simp) (by simp) (by simp)⟩
  · refine WpC.exit ?_
    have hkn : k = l.length := by omega
    subst hkn
    rw [List.take_of_length_le (Nat.le_refl _)] at hi
    refine WpC.seq (WpC.ops tabOk (r := []) (by simp -implicitDefEqProofs <;> rfl) rfl ?_)
    refine WpC.ret ?_
    try simp only [blockQ, seqQ]
    refine retD_i (by simp -implicitDefEqProofs <;> rfl) (by simp -implicitDefEqProofs <;> rfl) ?_
    have : l.findIdx? f = none := by rw [List.findIdx?_eq_none_iff]; simpa using hi
    simp [idxP, this]

theorem idxP_any {α : Type} (f : α → Bool) (l : List α) : decide (0 ≤ idxP f l) = l.any f := by
  unfold idxP
  cases h : l.findIdx? f with
  | none => rw [List.findIdx?_eq_none_iff] at h; symm; simpa using h
  | some i =>
    rw [List.findIdx?_eq_some_iff_getElem] at h
    obtain ⟨h1, h2, _⟩ := h
    have : l.any f = true := by rw [List.any_eq_true]; exact ⟨_, List.getElem_mem h1, h2⟩
    simp [this]

theorem containsO_ok (l : List Ord) (o : Ord) (hl : l.length ≤ 1000000000) : Gives Try.prog 45 [.d (encOs l), .fn 46 [.dp o.cs]] (.d (.bool (l.any fun x => decide (x.cred = o.cred)))) := by
  refine Gives.enter tabOk Try.func45 rfl (by show 2 ≤ 9; decide) ?_
  simp only [Try.f45]
  refine WpC.seq (WpC.ops tabOk (r := []) (by simp -implicitDefEqProofs <;> rfl) rfl ?_)
  refine WpC.seq ?_
  refine WpC.region ?_
  refine WpO.run tabOk 2 (by simp -implicitDefEqProofs <;> first | exact ⟨rfl, rfl⟩ | rfl) ?_
  refine WpO.data (by simp) rfl (by simp -implicitDefEqProofs <;> rfl) (by simp -implicitDefEqProofs <;> rfl) (by simp -implicitDefEqProofs <;> rfl) call_59 (by simp) (indexO_ok l o hl) (by rfl) (by simp -implicitDefEqProofs <;> rfl) ?_
  refine WpO.run tabOk 2 (by simp -implicitDefEqProofs <;> first | exact ⟨rfl, rfl⟩ | rfl) ?_
  refine WpO.nil ?_
  refine WpC.ret ?_
  try simp only [blockQ, seqQ]
  refine retD_i (by simp -implicitDefEqProofs <;> rfl) (by simp -implicitDefEqProofs <;> rfl) ?_
  simp [← idxP_any]

def ordBad (o : Ord) : Bool := decide (min (min (min o.cred o.pri) o.claim) o.bal < 1) || decide (999 < max o.cred o.pri) || decide (1099511627776 < max o.claim o.bal)
def claimS (l : List Per) (id : Int) (o : Ord) : List Per × Int :=
  if srchB (perCmp id) l = false then (l, 5) else if ordBad o = true then (l, 1) else
  if (((l[srch (perCmp id) l]?).getD noPer).ords.any fun x => decide (x.cred = o.cred)) = true then (l, 6) else if 8 ≤ ((((l[srch (perCmp id) l]?).getD noPer).ords.length : Nat) : Int) then (l, 9) else
    (l.set (srch (perCmp id) l) { (l[srch (perCmp id) l]?).getD noPer with ords := ((l[srch (perCmp id) l]?).getD noPer).ords ++ [o] }, 0)
theorem claim_ok (l : List Per) (id : Int) (o : Ord) (hl : l.length ≤ 1000000000) (ho : ∀ p ∈ l, p.ords.length ≤ 1000) : Gives Try.prog 26 [.d (encM l), .d (dI id), .d o.enc] (.tup [.d (encM (claimS l id o).1), .d (dI (claimS l id o).2)]) := by
  obtain ⟨i, hi⟩ : ∃ i, srch (perCmp id) l = i := ⟨_, rfl⟩
  obtain ⟨b, hb⟩ : ∃ b, srchB (perCmp id) l = b := ⟨_, rfl⟩
  have hf := find_ok l id hl
  rw [hi, hb] at hf
  have hlt : b = true → i < l.length := fun h => hi ▸ srchB_lt (hb.trans h)
  unfold claimS
  rw [hi, hb]
  refine Gives.enter tabOk Try.func26 rfl (by show 3 ≤ 76; decide) ?_
  simp only [Try.f26]
  refine WpC.seq (WpC.ops tabOk (r := []) (by simp -implicitDefEqProofs <;> rfl) rfl ?_)
  refine WpC.seq ?_
  refine WpC.region ?_
  refine WpO.run tabOk 2 (by simp -implicitDefEqProofs <;> first | exact ⟨rfl, rfl⟩ | rfl) ?_
  refine WpO.data (by simp) rfl (by simp -implicitDefEqProofs <;> rfl) (by simp -implicitDefEqProofs <;> rfl) (by simp -implicitDefEqProofs <;> rfl) call_35 (by simp) (hf) (by rfl) (by simp -implicitDefEqProofs <;> rfl) ?_
  refine WpO.run tabOk 5 (by simp -implicitDefEqProofs <;> first | exact ⟨rfl, rfl⟩ | rfl) ?_
  refine WpO.nil ?_
  refine WpC.seq ?_
  refine WpC.seq (WpC.ops tabOk (r := []) (by simp -implicitDefEqProofs <;> rfl) rfl ?_)
  refine WpC.condR (by simp -implicitDefEqProofs <;> rfl) (by rfl) (fun c18 => ?_) (fun c18 => ?_)
  · have c18' := c18; first | simp only [dT, dF] at c18' | try simp at c18'
    refine WpC.seq (WpC.ops tabOk (r := []) (by simp -implicitDefEqProofs [c18] <;> rfl) rfl ?_)
    refine WpC.ret ?_
    try simp only [blockQ, seqQ]
    refine retD_i (by simp -implicitDefEqProofs [c18] <;> rfl) (by simp -implicitDefEqProofs [c18] <;> rfl) ?_
    simp [c18']
  · have c18' := c18; first | simp only [dT, dF] at c18' | try simp at c18'
    have hb1 : b = true := by simpa using c18
    have hil := hlt hb1
    obtain ⟨q, hq⟩ : ∃ q, l[i] = q := ⟨_, rfl⟩
    have hgq : (l[i]?).getD noPer = q := by rw [List.getElem?_eq_getElem hil, hq]; rfl
    have hqo : q.ords.length ≤ 1000 := ho q (hq ▸ List.getElem_mem hil)
    refine WpC.skip ?_
    refine WpC.seq (WpC.ops tabOk (r := []) (by simp -implicitDefEqProofs [c18, hil, hq] <;> rfl) rfl ?_)
    refine WpC.seq ?_
    refine WpC.block ?_
    refine WpC.seq ?_
    refine WpC.val 25 (.d (.bool (ordBad o))) ?_ ?_
    · refine WpC.region ?_
      refine WpO.run tabOk 11 (by simp -implicitDefEqProofs [c18, hil, hq] <;> first | exact ⟨rfl, rfl⟩ | rfl) ?_
      refine WpO.splitB 36 (by simp -implicitDefEqProofs [c18, hil, hq] <;> rfl) (by rfl) (fun g36 => ?_) (fun g36 => ?_)
      · have g36' := g36; first | simp only [dT, dF] at g36' | try simp at g36'
        refine WpO.run tabOk 16 (by simp -implicitDefEqProofs [c18, hil, hq, g36] <;> first | exact ⟨rfl, rfl⟩ | rfl) ?_
        refine WpO.nil ?_
        refine ⟨rfl, Gh.only 25 28 ?_ (by first | rfl | simp -implicitDefEqProofs [c18, hil, hq, g36]) (by rfl)⟩
        simp -implicitDefEqProofs [c18, hil, hq, g36, g36', ordBad]
      · have g36' := g36; first | simp only [dT, dF] at g36' | try simp at g36'
        refine WpO.run tabOk 8 (by simp -implicitDefEqProofs [c18, hil, hq, g36] <;> first | exact ⟨rfl, rfl⟩ | rfl) ?_
        refine WpO.splitB 44 (by simp -implicitDefEqProofs [c18, hil, hq, g36] <;> rfl) (by rfl) (fun g44 => ?_) (fun g44 => ?_)
        · have g44' := g44; first | simp only [dT, dF] at g44' | try simp at g44'
          refine WpO.run tabOk 8 (by simp -implicitDefEqProofs [c18, hil, hq, g36, g44] <;> first | exact ⟨rfl, rfl⟩ | rfl) ?_
          refine WpO.nil ?_
          refine ⟨rfl, Gh.only 25 29 ?_ (by first | rfl | simp -implicitDefEqProofs [c18, hil, hq, g36, g44]) (by rfl)⟩
          simp -implicitDefEqProofs [c18, hil, hq, g36, g44, g36', g44', ordBad]
        · have g44' := g44; first | simp only [dT, dF] at g44' | try simp at g44'
          refine WpO.run tabOk 8 (by simp -implicitDefEqProofs [c18, hil, hq, g36, g44] <;> first | exact ⟨rfl, rfl⟩ | rfl) ?_
          refine WpO.nil ?_
          refine ⟨rfl, Gh.only 25 29 ?_ (by first | rfl | simp -implicitDefEqProofs [c18, hil, hq, g36, g44]) (by rfl)⟩
          simp -implicitDefEqProofs [c18, hil, hq, g36, g44, g36', g44', ordBad]
    refine WpC.condR (by simp -implicitDefEqProofs [c18, hil, hq] <;> rfl) (by rfl) (fun c25 => ?_) (fun c25 => ?_)
    · have c25' := c25; first | simp only [dT, dF] at c25' | try simp at c25'
      refine WpC.seq (WpC.ops tabOk (r := []) (by simp -implicitDefEqProofs [c18, hil, hq, c25] <;> rfl) rfl ?_)
      refine WpC.ret ?_
      try simp only [blockQ, seqQ]
      refine retD_i (by simp -implicitDefEqProofs [c18, hil, hq, c25] <;> rfl) (by simp -implicitDefEqProofs [c18, hil, hq, c25] <;> rfl) ?_
      simp [hb1, c25, hil, hq]
    · have c25' := c25; first | simp only [dT, dF] at c25' | try simp at c25'
      refine WpC.seq ?_
      refine WpC.region ?_
      refine WpO.run tabOk 3 (by simp -implicitDefEqProofs [c18, hil, hq, c25] <;> first | exact ⟨rfl, rfl⟩ | rfl) ?_
      refine WpO.lend (by simp) rfl (by simp -implicitDefEqProofs [c18, hil, hq, c25] <;> rfl) (by simp -implicitDefEqProofs [c18, hil, hq, c25] <;> rfl) (by simp -implicitDefEqProofs [c18, hil, hq, c25] <;> rfl) call_45 (containsO_ok q.ords o (by omega)) (by rfl) (by simp -implicitDefEqProofs [c18, hil, hq, c25] <;> rfl) ?_
      refine WpO.run tabOk 1 (by simp -implicitDefEqProofs [c18, hil, hq, c25] <;> first | exact ⟨rfl, rfl⟩ | rfl) ?_
      refine WpO.nil ?_
      refine WpC.condR (by simp -implicitDefEqProofs [c18, hil, hq, c25] <;> rfl) (by rfl) (fun c53 => ?_) (fun c53 => ?_)
      · have c53' := c53; first | simp only [dT, dF] at c53' | try simp at c53'
        refine WpC.seq (WpC.ops tabOk (r := []) (by simp -implicitDefEqProofs [c18, hil, hq, c25, c53] <;> rfl) rfl ?_)
        refine WpC.ret ?_
        try simp only [blockQ, seqQ]
        refine retD_i (by simp -implicitDefEqProofs [c18, hil, hq, c25, c53] <;> rfl) (by simp -implicitDefEqProofs [c18, hil, hq, c25, c53] <;> rfl) ?_
        simp [hb1, c25, c53, hil, hq]
      · have c53' := c53; first | simp only [dT, dF] at c53' | try simp at c53'
        refine WpC.seq (WpC.ops tabOk (r := []) (by simp -implicitDefEqProofs [c18, hil, hq, c25, c53] <;> rfl) rfl ?_)
        refine WpC.condD ((8 : Int) ≤ (q.ords.length : Int)) (by simp -implicitDefEqProofs [c18, hil, hq, c25, c53]) (fun d59 => ?_) (fun d59 => ?_)
        · refine WpC.seq (WpC.ops tabOk (r := []) (by simp -implicitDefEqProofs [c18, hil, hq, c25, c53, d59] <;> rfl) rfl ?_)
          refine WpC.ret ?_
          try simp only [blockQ, seqQ]
          refine retD_i (by simp -implicitDefEqProofs [c18, hil, hq, c25, c53, d59] <;> rfl) (by simp -implicitDefEqProofs [c18, hil, hq, c25, c53, d59] <;> rfl) ?_
          simp [hb1, c25, c53, hil, hq, d59]
        · have hn1 : q.ords.length ≤ 8589934591 := by omega
          refine WpC.skip ?_
          refine WpC.seq ?_
          refine WpC.drawn tabOk (by kernel_rfl) 2 (by simp) ?_
          refine DrO.run (fz := [4]) 2 (by simp -implicitDefEqProofs [c18, hil, hq, c25, c53, d59, hn1] <;> first | exact ⟨rfl, rfl, rfl, rfl⟩ | rfl) ?_
          refine DrO.call [] (by simp) rfl (by simp -implicitDefEqProofs [c18, hil, hq, c25, c53, d59, hn1] <;> rfl) (by simp -implicitDefEqProofs [c18, hil, hq, c25, c53, d59, hn1] <;> rfl) call_47 (by simp) (by simp -implicitDefEqProofs [c18, hil, hq, c25, c53, d59, hn1]) (passOk_of (by simp; rfl) (by simp)) ( cloneO_ok (q.ords.map Ord.enc) (by simp; omega)) (by rfl) (by simp; rfl) (by simp [callS]; rfl) (by simp [updS, getO]; rfl) (by simp -implicitDefEqProofs [c18, hil, hq, c25, c53, d59, hn1] <;> rfl) (by simp [evIds, fids, oids]; rfl) ?_
          refine DrO.run (fz := [4]) 3 (by simp -implicitDefEqProofs [c18, hil, hq, c25, c53, d59, hn1] <;> first | exact ⟨rfl, rfl, rfl, rfl⟩ | rfl) ?_
          refine DrO.run (fz := [4]) 2 (by simp -implicitDefEqProofs [c18, hil, hq, c25, c53, d59, hn1] <;> first | exact ⟨rfl, rfl, rfl, rfl⟩ | rfl) ?_
          refine DrO.nil ⟨by kernel_rfl, ?_⟩
          refine WpC.seq ?_
          refine WpC.gh (Gh.frz [5]) ?_
          refine WpC.region ?_
          refine WpO.run tabOk 3 (by simp -implicitDefEqProofs [c18, hil, hq, c25, c53, d59, hn1] <;> first | exact ⟨rfl, rfl⟩ | rfl) ?_
          refine WpO.data (by simp) rfl (by simp -implicitDefEqProofs [c18, hil, hq, c25, c53, d59, hn1] <;> rfl) (by simp -implicitDefEqProofs [c18, hil, hq, c25, c53, d59, hn1] <;> rfl) (by simp -implicitDefEqProofs [c18, hil, hq, c25, c53, d59, hn1] <;> rfl) call_43 (by simp) (with_ok l i { q with ords := q.ords ++ [o] } hl hil) (by rfl) (by simp -implicitDefEqProofs [c18, hil, hq, c25, c53, d59, hn1] <;> rfl) ?_
          refine WpO.run tabOk 2 (by simp -implicitDefEqProofs [c18, hil, hq, c25, c53, d59, hn1] <;> first | exact ⟨rfl, rfl⟩ | rfl) ?_
          refine WpO.nil ?_
          refine WpC.ret ?_
          try simp only [blockQ, seqQ]
          refine retD_i (by simp -implicitDefEqProofs [c18, hil, hq, c25, c53, d59, hn1] <;> rfl) (by simp -implicitDefEqProofs [c18, hil, hq, c25, c53, d59, hn1] <;> rfl) ?_
          simp [hb1, c25, c53, hil, hq, d59]
end Go.Proofs.Ytndofikacmhejaa.Pay
