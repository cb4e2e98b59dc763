/- Hiring, changing. No statement of the seed is proved here. -/
import Derived.Test.YtndofikacmhejaaMaE
namespace Go.Proofs.Ytndofikacmhejaa.Pay
open Go Go.RowKit
set_option linter.unusedVariables false
set_option linter.unusedSimpArgs false

theorem srch_le {α : Type} (cmp : α → Int) (l : List α) : srch cmp l ≤ l.length := (bs_le (Nat.zero_le _)).2

def hireBad (id : Int) (r : Rec) : Bool := decide (id < 1) || decide (2147483647 < id) || !rightB r
def hireS (l : List Per) (id : Int) (r : Rec) : List Per × Int :=
  if hireBad id r = true then (l, 1) else if srchB (perCmp id) l = true then (l, 6) else if 50 ≤ (l.length : Int) then (l, 9) else
    (l.take (srch (perCmp id) l) ++ ⟨id, r.frm, 0, [r], []⟩ :: l.drop (srch (perCmp id) l), 0)
set_option maxHeartbeats 1000000 in
theorem hire_ok (l : List Per) (id : Int) (r : Rec) (hl : l.length ≤ 1000000000) : Gives Try.prog 20 [.d (encM l), .d (dI id), .d r.enc] (.tup [.d (encM (hireS l id r).1), .d (dI (hireS l id r).2)]) := by
  obtain ⟨i, hi⟩ : ∃ i, srch (perCmp id) l = i := ⟨_, rfl⟩
  obtain ⟨b, hb⟩ : ∃ b, srchB (perCmp id) l = b := ⟨_, rfl⟩
  have hf := find_ok l id hl
  rw [hi, hb] at hf
  have hil : i ≤ l.length := hi ▸ srch_le _ _
  unfold hireS
  rw [hi, hb]
  have hmn : min i l.length = i := by omega
  have hs1 : i + (l.length - i + 1) = l.length + 1 := by omega
  refine Gives.enter tabOk Try.func20 rfl (by show 3 ≤ 53; decide) ?_
  simp only [Try.f20]
  refine WpC.seq (WpC.ops tabOk (r := []) (by simp -implicitDefEqProofs [hmn, hs1] <;> rfl) rfl ?_)
  refine WpC.seq ?_
  refine WpC.region ?_
  refine WpO.run tabOk 2 (by simp -implicitDefEqProofs [hmn, hs1] <;> first | exact ⟨rfl, rfl⟩ | rfl) ?_
  refine WpO.data (by simp) rfl (by simp -implicitDefEqProofs [hmn, hs1] <;> rfl) (by simp -implicitDefEqProofs [hmn, hs1] <;> rfl) (by simp -implicitDefEqProofs [hmn, hs1] <;> rfl) call_35 (by simp) (hf) (by rfl) (by simp -implicitDefEqProofs [hmn, hs1] <;> rfl) ?_
  refine WpO.run tabOk 5 (by simp -implicitDefEqProofs [hmn, hs1] <;> first | exact ⟨rfl, rfl⟩ | rfl) ?_
  refine WpO.nil ?_
  refine WpC.seq ?_
  refine WpC.block ?_
  refine WpC.seq ?_
  refine WpC.val 17 (.d (.bool (hireBad id r))) ?_ ?_
  · refine WpC.region ?_
    refine WpO.run tabOk 3 (by simp -implicitDefEqProofs [hmn, hs1] <;> first | exact ⟨rfl, rfl⟩ | rfl) ?_
    refine WpO.splitB 20 (by simp -implicitDefEqProofs [hmn, hs1] <;> rfl) (by rfl) (fun g20 => ?_) (fun g20 => ?_)
    · have g20' := g20; first | simp only [dT, dF] at g20' | try simp at g20'
      refine WpO.run tabOk 9 (by simp -implicitDefEqProofs [hmn, hs1, g20] <;> first | exact ⟨rfl, rfl⟩ | rfl) ?_
      refine WpO.nil ?_
      refine ⟨rfl, Gh.only 17 13 ?_ (by first | rfl | simp -implicitDefEqProofs [hmn, hs1, g20]) (by rfl)⟩
      simp -implicitDefEqProofs [hmn, hs1, g20, g20', hireBad]
    · have g20' := g20; first | simp only [dT, dF] at g20' | try simp at g20'
      refine WpO.run tabOk 4 (by simp -implicitDefEqProofs [hmn, hs1, g20] <;> first | exact ⟨rfl, rfl⟩ | rfl) ?_
      refine WpO.splitB 24 (by simp -implicitDefEqProofs [hmn, hs1, g20] <;> rfl) (by rfl) (fun g24 => ?_) (fun g24 => ?_)
      · have g24' := g24; first | simp only [dT, dF] at g24' | try simp at g24'
        refine WpO.run tabOk 5 (by simp -implicitDefEqProofs [hmn, hs1, g20, g24] <;> first | exact ⟨rfl, rfl⟩ | rfl) ?_
        refine WpO.nil ?_
        refine ⟨rfl, Gh.only 17 14 ?_ (by first | rfl | simp -implicitDefEqProofs [hmn, hs1, g20, g24]) (by rfl)⟩
        simp -implicitDefEqProofs [hmn, hs1, g20, g24, g20', g24', hireBad]
      · have g24' := g24; first | simp only [dT, dF] at g24' | try simp at g24'
        refine WpO.run tabOk 1 (by simp -implicitDefEqProofs [hmn, hs1, g20, g24] <;> first | exact ⟨rfl, rfl⟩ | rfl) ?_
        refine WpO.data (by simp) rfl (by simp -implicitDefEqProofs [hmn, hs1, g20, g24] <;> rfl) (by simp -implicitDefEqProofs [hmn, hs1, g20, g24] <;> rfl) (by simp -implicitDefEqProofs [hmn, hs1, g20, g24] <;> rfl) call_36 (by simp) (right_ok r) (by rfl) (by simp -implicitDefEqProofs [hmn, hs1, g20, g24] <;> rfl) ?_
        refine WpO.run tabOk 3 (by simp -implicitDefEqProofs [hmn, hs1, g20, g24] <;> first | exact ⟨rfl, rfl⟩ | rfl) ?_
        refine WpO.nil ?_
        refine ⟨rfl, Gh.only 17 14 ?_ (by first | rfl | simp -implicitDefEqProofs [hmn, hs1, g20, g24]) (by rfl)⟩
        simp -implicitDefEqProofs [hmn, hs1, g20, g24, g20', g24', hireBad]
  refine WpC.condR (by simp -implicitDefEqProofs [hmn, hs1] <;> rfl) (by rfl) (fun c17 => ?_) (fun c17 => ?_)
  · have c17' := c17; first | simp only [dT, dF] at c17' | try simp at c17'
    refine WpC.seq (WpC.ops tabOk (r := []) (by simp -implicitDefEqProofs [hmn, hs1, c17] <;> rfl) rfl ?_)
    refine WpC.ret ?_
    try simp only [blockQ, seqQ]
    refine retD_i (by simp -implicitDefEqProofs [hmn, hs1, c17] <;> rfl) (by simp -implicitDefEqProofs [hmn, hs1, c17] <;> rfl) ?_
    simp [c17]
  · have c17' := c17; first | simp only [dT, dF] at c17' | try simp at c17'
    refine WpC.seq (WpC.ops tabOk (r := []) (by simp -implicitDefEqProofs [hmn, hs1, c17] <;> rfl) rfl ?_)
    refine WpC.condR (by simp -implicitDefEqProofs [hmn, hs1, c17] <;> rfl) (by rfl) (fun c30 => ?_) (fun c30 => ?_)
    · have c30' := c30; first | simp only [dT, dF] at c30' | try simp at c30'
      refine WpC.seq (WpC.ops tabOk (r := []) (by simp -implicitDefEqProofs [hmn, hs1, c17, c30] <;> rfl) rfl ?_)
      refine WpC.ret ?_
      try simp only [blockQ, seqQ]
      refine retD_i (by simp -implicitDefEqProofs [hmn, hs1, c17, c30] <;> rfl) (by simp -implicitDefEqProofs [hmn, hs1, c17, c30] <;> rfl) ?_
      simp [c17, c30]
    · have c30' := c30; first | simp only [dT, dF] at c30' | try simp at c30'
      refine WpC.seq (WpC.ops tabOk (r := []) (by simp -implicitDefEqProofs [hmn, hs1, c17, c30] <;> rfl) rfl ?_)
      refine WpC.condR (by simp -implicitDefEqProofs [hmn, hs1, c17, c30] <;> rfl) (by rfl) (fun c33 => ?_) (fun c33 => ?_)
      · have c33' := c33; first | simp only [dT, dF] at c33' | try simp at c33'
        refine WpC.seq (WpC.ops tabOk (r := []) (by simp -implicitDefEqProofs [hmn, hs1, c17, c30, c33] <;> rfl) rfl ?_)
        refine WpC.ret ?_
        try simp only [blockQ, seqQ]
        refine retD_i (by simp -implicitDefEqProofs [hmn, hs1, c17, c30, c33] <;> rfl) (by simp -implicitDefEqProofs [hmn, hs1, c17, c30, c33] <;> rfl) ?_
        simp [c17, c30', c33']
      · have c33' := c33; first | simp only [dT, dF] at c33' | try simp at c33'
        refine WpC.skip ?_
        refine WpC.seq ?_
        refine WpC.region ?_
        refine WpO.run tabOk 6 (by simp <;> first | exact ⟨rfl, rfl⟩ | rfl) ?_
        refine WpO.gh (Gh.frz [3]) ?_
        refine WpO.gh (Gh.view (t := 44) (by simp; rfl) (by simp; rfl)) ?_
        refine WpO.gh (Gh.slot (t := 44) (x := .d (.agg [dI id, dI r.frm, dI 0, .list 7 [r.enc], .nil])) (y := .d (Per.enc ⟨id, r.frm, 0, [r], []⟩)) (by simp) fun _ _ _ _ _ _ hv => le_ok (by simp [FV.le, D.leL]) hv) ?_
        refine WpO.run tabOk 2 (by simp <;> first | exact ⟨rfl, rfl⟩ | rfl) ?_
        refine WpO.nil ?_
        refine WpC.seq ?_
        refine WpC.drawn tabOk (by kernel_rfl) 3 (by simp) ?_
        refine DrO.run (fz := []) 2 (by simp -implicitDefEqProofs [hmn, hs1, c17, c30, c33] <;> first | exact ⟨rfl, rfl, rfl, rfl⟩ | rfl) ?_
        refine DrO.call [] (by simp) rfl (by simp -implicitDefEqProofs [hmn, hs1, c17, c30, c33] <;> rfl) (by simp -implicitDefEqProofs [hmn, hs1, c17, c30, c33] <;> rfl) call_38 (by simp) (by simp -implicitDefEqProofs [hmn, hs1, c17, c30, c33]) (passOk_of (by simp; rfl) (by simp)) ( cloneP_ok (l.map Per.enc) (by simpa using hl)) (by rfl) (by simp; rfl) (by simp [callS]; rfl) (by simp [updS, getO]; rfl) (by simp -implicitDefEqProofs [hmn, hs1, c17, c30, c33] <;> rfl) (by simp [evIds, fids, oids]; rfl) ?_
        refine DrO.run (fz := []) 3 (by simp -implicitDefEqProofs [hmn, hs1, c17, c30, c33] <;> first | exact ⟨rfl, rfl, rfl, rfl⟩ | rfl) ?_
        refine DrO.call [5, 6] (by simp) rfl (by simp -implicitDefEqProofs [hmn, hs1, c17, c30, c33] <;> rfl) (by simp -implicitDefEqProofs [hmn, hs1, c17, c30, c33] <;> rfl) call_37 (by simp) (by simp -implicitDefEqProofs [hmn, hs1, c17, c30, c33]) (passOk_of (by simp; rfl) (by simp)) ( insertP_ok (l.map Per.enc) (Per.enc ⟨id, r.frm, 0, [r], []⟩) i (by simpa using hil) (by simpa using hl)) (by rfl) (by simp; rfl) (by simp [callS]; rfl) (by simp [updS, getO]; rfl) (by simp -implicitDefEqProofs [hmn, hs1, c17, c30, c33] <;> rfl) (by simp [evIds, fids, oids]; rfl) ?_
        refine DrO.run (fz := []) 3 (by simp -implicitDefEqProofs [hmn, hs1, c17, c30, c33] <;> first | exact ⟨rfl, rfl, rfl, rfl⟩ | rfl) ?_
        refine DrO.nil ⟨by kernel_rfl, ?_⟩
        refine WpC.ret ?_
        try simp only [blockQ, seqQ]
        refine retD_i (by simp -implicitDefEqProofs [hmn, hs1, c17, c30, c33] <;> rfl) (by simp -implicitDefEqProofs [hmn, hs1, c17, c30, c33] <;> rfl) ?_
        simp [c17, c30', c33']

def recS (l : List Rec) (r : Rec) : List Rec := if srchB (recCmp r.frm) l = true then l.set (srch (recCmp r.frm) l) r else l.take (srch (recCmp r.frm) l) ++ r :: l.drop (srch (recCmp r.frm) l)
def changeS (l : List Per) (id : Int) (r : Rec) : List Per × Int :=
  if hireBad id r = true then (l, 1) else if srchB (perCmp id) l = false then (l, 5) else if r.frm < ((l[srch (perCmp id) l]?).getD noPer).hired then (l, 1) else
    (l.set (srch (perCmp id) l) { (l[srch (perCmp id) l]?).getD noPer with recs := recS ((l[srch (perCmp id) l]?).getD noPer).recs r }, 0)
set_option maxHeartbeats 1000000 in
theorem change_ok (l : List Per) (id : Int) (r : Rec) (hl : l.length ≤ 1000000000) (hr : ∀ p ∈ l, p.recs.length ≤ 1000000000) : Gives Try.prog 21 [.d (encM l), .d (dI id), .d r.enc] (.tup [.d (encM (changeS l id r).1), .d (dI (changeS l id r).2)]) := by
  obtain ⟨i, hi⟩ : ∃ i, srch (perCmp id) l = i := ⟨_, rfl⟩
  obtain ⟨b, hb⟩ : ∃ b, srchB (perCmp id) l = b := ⟨_, rfl⟩
  have hf := find_ok l id hl
  rw [hi, hb] at hf
  have hlt : b = true → i < l.length := fun h => hi ▸ srchB_lt (hb.trans h)
  unfold changeS
  rw [hi, hb]
  refine Gives.enter tabOk Try.func21 rfl (by show 3 ≤ 81; decide) ?_
  simp only [Try.f21]
  refine WpC.seq (WpC.ops tabOk (r := []) (by simp -implicitDefEqProofs <;> rfl) rfl ?_)
  refine WpC.seq ?_
  refine WpC.region ?_
  refine WpO.run tabOk 2 (by simp -implicitDefEqProofs <;> first | exact ⟨rfl, rfl⟩ | rfl) ?_
  refine WpO.data (by simp) rfl (by simp -implicitDefEqProofs <;> rfl) (by simp -implicitDefEqProofs <;> rfl) (by simp -implicitDefEqProofs <;> rfl) call_35 (by simp) (hf) (by rfl) (by simp -implicitDefEqProofs <;> rfl) ?_
  refine WpO.run tabOk 5 (by simp -implicitDefEqProofs <;> first | exact ⟨rfl, rfl⟩ | rfl) ?_
  refine WpO.nil ?_
  refine WpC.seq ?_
  refine WpC.block ?_
  refine WpC.seq ?_
  refine WpC.val 19 (.d (.bool (hireBad id r))) ?_ ?_
  · refine WpC.region ?_
    refine WpO.run tabOk 3 (by simp -implicitDefEqProofs <;> first | exact ⟨rfl, rfl⟩ | rfl) ?_
    refine WpO.splitB 22 (by simp -implicitDefEqProofs <;> rfl) (by rfl) (fun g22 => ?_) (fun g22 => ?_)
    · have g22' := g22; first | simp only [dT, dF] at g22' | try simp at g22'
      refine WpO.run tabOk 9 (by simp -implicitDefEqProofs [g22] <;> first | exact ⟨rfl, rfl⟩ | rfl) ?_
      refine WpO.nil ?_
      refine ⟨rfl, Gh.only 19 13 ?_ (by first | rfl | simp -implicitDefEqProofs [g22]) (by rfl)⟩
      simp -implicitDefEqProofs [g22, g22', hireBad]
    · have g22' := g22; first | simp only [dT, dF] at g22' | try simp at g22'
      refine WpO.run tabOk 4 (by simp -implicitDefEqProofs [g22] <;> first | exact ⟨rfl, rfl⟩ | rfl) ?_
      refine WpO.splitB 26 (by simp -implicitDefEqProofs [g22] <;> rfl) (by rfl) (fun g26 => ?_) (fun g26 => ?_)
      · have g26' := g26; first | simp only [dT, dF] at g26' | try simp at g26'
        refine WpO.run tabOk 5 (by simp -implicitDefEqProofs [g22, g26] <;> first | exact ⟨rfl, rfl⟩ | rfl) ?_
        refine WpO.nil ?_
        refine ⟨rfl, Gh.only 19 14 ?_ (by first | rfl | simp -implicitDefEqProofs [g22, g26]) (by rfl)⟩
        simp -implicitDefEqProofs [g22, g26, g22', g26', hireBad]
      · have g26' := g26; first | simp only [dT, dF] at g26' | try simp at g26'
        refine WpO.run tabOk 1 (by simp -implicitDefEqProofs [g22, g26] <;> first | exact ⟨rfl, rfl⟩ | rfl) ?_
        refine WpO.data (by simp) rfl (by simp -implicitDefEqProofs [g22, g26] <;> rfl) (by simp -implicitDefEqProofs [g22, g26] <;> rfl) (by simp -implicitDefEqProofs [g22, g26] <;> rfl) call_36 (by simp) (right_ok r) (by rfl) (by simp -implicitDefEqProofs [g22, g26] <;> rfl) ?_
        refine WpO.run tabOk 3 (by simp -implicitDefEqProofs [g22, g26] <;> first | exact ⟨rfl, rfl⟩ | rfl) ?_
        refine WpO.nil ?_
        refine ⟨rfl, Gh.only 19 14 ?_ (by first | rfl | simp -implicitDefEqProofs [g22, g26]) (by rfl)⟩
        simp -implicitDefEqProofs [g22, g26, g22', g26', hireBad]
  refine WpC.condR (by simp -implicitDefEqProofs <;> rfl) (by rfl) (fun c19 => ?_) (fun c19 => ?_)
  · have c19' := c19; first | simp only [dT, dF] at c19' | try simp at c19'
    refine WpC.seq (WpC.ops tabOk (r := []) (by simp -implicitDefEqProofs [c19] <;> rfl) rfl ?_)
    refine WpC.ret ?_
    try simp only [blockQ, seqQ]
    refine retD_i (by simp -implicitDefEqProofs [c19] <;> rfl) (by simp -implicitDefEqProofs [c19] <;> rfl) ?_
    simp [c19]
  · have c19' := c19; first | simp only [dT, dF] at c19' | try simp at c19'
    refine WpC.seq (WpC.ops tabOk (r := []) (by simp -implicitDefEqProofs [c19] <;> rfl) rfl ?_)
    refine WpC.condR (by simp -implicitDefEqProofs [c19] <;> rfl) (by rfl) (fun c32 => ?_) (fun c32 => ?_)
    · have c32' := c32; first | simp only [dT, dF] at c32' | try simp at c32'
      refine WpC.seq (WpC.ops tabOk (r := []) (by simp -implicitDefEqProofs [c19, c32] <;> rfl) rfl ?_)
      refine WpC.ret ?_
      try simp only [blockQ, seqQ]
      refine retD_i (by simp -implicitDefEqProofs [c19, c32] <;> rfl) (by simp -implicitDefEqProofs [c19, c32] <;> rfl) ?_
      simp [c19', c32']
    · have c32' := c32; first | simp only [dT, dF] at c32' | try simp at c32'
      have hb1 : b = true := by simpa using c32
      have hil := hlt hb1
      obtain ⟨q, hq⟩ : ∃ q, l[i] = q := ⟨_, rfl⟩
      have hgq : (l[i]?).getD noPer = q := by rw [List.getElem?_eq_getElem hil, hq]; rfl
      have hql : q.recs.length ≤ 1000000000 := hr q (hq ▸ List.getElem_mem hil)
      obtain ⟨j, hj⟩ : ∃ j, srch (recCmp r.frm) q.recs = j := ⟨_, rfl⟩
      obtain ⟨d, hd⟩ : ∃ d, srchB (recCmp r.frm) q.recs = d := ⟨_, rfl⟩
      have hjl : j ≤ q.recs.length := hj ▸ srch_le _ _
      have hbs := bsR_ok q.recs r.frm hql
      rw [hj, hd] at hbs
      refine WpC.seq (WpC.drawn tabOk (by kernel_rfl) 0 (by simp) ?_)
      refine DrO.run (fz := []) 3 (by simp -implicitDefEqProofs [c19, c32, hil, hq] <;> first | exact ⟨rfl, rfl, rfl, rfl⟩ | rfl) ?_
      refine DrO.run (fz := []) 3 (by simp -implicitDefEqProofs [c19, c32, hil, hq] <;> first | exact ⟨rfl, rfl, rfl, rfl⟩ | rfl) ?_
      refine DrO.run (fz := []) 3 (by simp -implicitDefEqProofs [c19, c32, hil, hq] <;> first | exact ⟨rfl, rfl, rfl, rfl⟩ | rfl) ?_
      refine DrO.run (fz := []) 1 (by simp -implicitDefEqProofs [c19, c32, hil, hq] <;> first | exact ⟨rfl, rfl, rfl, rfl⟩ | rfl) ?_
      refine DrO.nil ⟨by kernel_rfl, ?_⟩
      refine WpC.condR (by simp -implicitDefEqProofs [c19, c32, hil, hq] <;> rfl) (by rfl) (fun c36 => ?_) (fun c36 => ?_)
      · have c36' := c36; first | simp only [dT, dF] at c36' | try simp at c36'
        refine WpC.seq (WpC.ops tabOk (r := []) (by simp -implicitDefEqProofs [c19, c32, hil, hq, c36] <;> rfl) rfl ?_)
        refine WpC.ret ?_
        try simp only [blockQ, seqQ]
        refine retD_i (by simp -implicitDefEqProofs [c19, c32, hil, hq, c36] <;> rfl) (by simp -implicitDefEqProofs [c19, c32, hil, hq, c36] <;> rfl) ?_
        simp [c19', hb1, c36', hil, hq]
      · have c36' := c36; first | simp only [dT, dF] at c36' | try simp at c36'
        refine WpC.skip ?_
        refine WpC.seq (WpC.ops tabOk (r := []) (by simp -implicitDefEqProofs [c19, c32, hil, hq, c36] <;> rfl) rfl ?_)
        refine WpC.seq ?_
        refine WpC.region ?_
        refine WpO.run tabOk 4 (by simp -implicitDefEqProofs [c19, c32, hil, hq, c36] <;> first | exact ⟨rfl, rfl⟩ | rfl) ?_
        refine WpO.data (by simp) rfl (by simp -implicitDefEqProofs [c19, c32, hil, hq, c36] <;> rfl) (by simp -implicitDefEqProofs [c19, c32, hil, hq, c36] <;> rfl) (by simp -implicitDefEqProofs [c19, c32, hil, hq, c36] <;> rfl) call_39 (by simp) (hbs) (by rfl) (by simp -implicitDefEqProofs [c19, c32, hil, hq, c36] <;> rfl) ?_
        refine WpO.run tabOk 5 (by simp -implicitDefEqProofs [c19, c32, hil, hq, c36] <;> first | exact ⟨rfl, rfl⟩ | rfl) ?_
        refine WpO.nil ?_
        refine WpC.seq ?_
        refine WpC.region ?_
        refine WpO.run tabOk 2 (by simp -implicitDefEqProofs [c19, c32, hil, hq, c36] <;> first | exact ⟨rfl, rfl⟩ | rfl) ?_
        refine WpO.callP [] (by simp) rfl (by simp -implicitDefEqProofs [c19, c32, hil, hq, c36] <;> rfl) (by simp -implicitDefEqProofs [c19, c32, hil, hq, c36] <;> rfl) call_41 (by simp) (by simp) (by simp) (by simp -implicitDefEqProofs [c19, c32, hil, hq, c36]) (by simp; rfl) (by simp -implicitDefEqProofs [c19, c32, hil, hq, c36]) ( cloneR_ok (q.recs.map Rec.enc) (by simpa using hql)) fun r S1 hr => ?_
        obtain ⟨rfl, rfl⟩ := hr
        refine ⟨_, by simp -implicitDefEqProofs [c19, c32, hil, hq, c36] <;> rfl, ?_⟩
        refine WpO.run tabOk 2 (by simp -implicitDefEqProofs [c19, c32, hil, hq, c36] <;> first | exact ⟨rfl, rfl⟩ | rfl) ?_
        refine WpO.nil ?_
        refine WpC.seq ?_
        refine WpC.seq (WpC.ops tabOk (r := []) (by simp -implicitDefEqProofs [c19, c32, hil, hq, c36] <;> rfl) rfl ?_)
        refine WpC.condR (by simp -implicitDefEqProofs [c19, c32, hil, hq, c36] <;> rfl) (by rfl) (fun c64 => ?_) (fun c64 => ?_)
        · have c64' := c64; first | simp only [dT, dF] at c64' | try simp at c64'
          have hd1 : d = true := by simpa using c64
          have hjt : j < q.recs.length := hj ▸ srchB_lt (hd.trans hd1)
          have hrs : (List.map Rec.enc q.recs).set j (D.agg [dI r.frm, dI r.ctr, dI r.base, dI r.bonus, dI r.hours, dI r.days, D.bool r.lead]) = (recS q.recs r).map Rec.enc := by
            unfold recS
            rw [hj, hd, if_pos hd1, List.map_set]; rfl
          have hrl : (recS q.recs r).length = q.recs.length := by simpa using (congrArg List.length hrs).symm
          refine WpC.ops tabOk (r := []) (by simp -implicitDefEqProofs [c19, c32, hil, hq, c36, c64, hjt, hrs, hrl] <;> rfl) rfl ?_
          refine WpC.seq ?_
          refine WpC.gh (Gh.frz [4, 6]) ?_
          refine WpC.region ?_
          refine WpO.run tabOk 3 (by simp -implicitDefEqProofs [c19, c32, hil, hq, c36, c64, hjt, hrs, hrl] <;> first | exact ⟨rfl, rfl⟩ | rfl) ?_
          refine WpO.data (by simp) rfl (by simp -implicitDefEqProofs [c19, c32, hil, hq, c36, c64, hjt, hrs, hrl] <;> rfl) (by simp -implicitDefEqProofs [c19, c32, hil, hq, c36, c64, hjt, hrs, hrl] <;> rfl) (by simp -implicitDefEqProofs [c19, c32, hil, hq, c36, c64, hjt, hrs, hrl] <;> rfl) call_43 (by simp) (with_ok l i { q with recs := recS q.recs r } hl hil) (by rfl) (by simp -implicitDefEqProofs [c19, c32, hil, hq, c36, c64, hjt, hrs, hrl] <;> rfl) ?_
          refine WpO.run tabOk 2 (by simp -implicitDefEqProofs [c19, c32, hil, hq, c36, c64, hjt, hrs, hrl] <;> first | exact ⟨rfl, rfl⟩ | rfl) ?_
          refine WpO.nil ?_
          refine WpC.ret ?_
          try simp only [blockQ, seqQ]
          refine retD_i (by simp -implicitDefEqProofs [c19, c32, hil, hq, c36, c64, hjt, hrs, hrl] <;> rfl) (by simp -implicitDefEqProofs [c19, c32, hil, hq, c36, c64, hjt, hrs, hrl] <;> rfl) ?_
          simp [c19', hb1, c36', hil, hq]
        · have c64' := c64; first | simp only [dT, dF] at c64' | try simp at c64'
          have hd1 : d = false := by simpa using c64
          have hmn : min j q.recs.length = j := by omega
          have hs1 : j + (q.recs.length - j + 1) = q.recs.length + 1 := by omega
          have hrs : List.take j (List.map Rec.enc q.recs) ++ D.agg [dI r.frm, dI r.ctr, dI r.base, dI r.bonus, dI r.hours, dI r.days, D.bool r.lead] :: List.drop j (List.map Rec.enc q.recs) = (recS q.recs r).map Rec.enc := by
            unfold recS
            rw [hj, hd, if_neg (by rw [hd1]; decide), List.map_append, List.map_cons, List.map_take, List.map_drop]; rfl
          have hrl : (recS q.recs r).length = q.recs.length + 1 := by
            have := (congrArg List.length hrs).symm
            simp only [List.length_map, List.length_append, List.length_cons, List.length_take, List.length_drop] at this
            omega
          refine WpC.region ?_
          refine WpO.run tabOk 5 (by simp -implicitDefEqProofs [c19, c32, hil, hq, c36, c64, hmn, hs1, hrs, hrl] <;> first | exact ⟨rfl, rfl⟩ | rfl) ?_
          refine WpO.callP [4, 5] (by simp) rfl (by simp -implicitDefEqProofs [c19, c32, hil, hq, c36, c64, hmn, hs1, hrs, hrl] <;> rfl) (by simp -implicitDefEqProofs [c19, c32, hil, hq, c36, c64, hmn, hs1, hrs, hrl] <;> rfl) call_42 (by simp) (by simp) (by simp) (by simp -implicitDefEqProofs [c19, c32, hil, hq, c36, c64, hmn, hs1, hrs, hrl]) (by simp; rfl) (by simp -implicitDefEqProofs [c19, c32, hil, hq, c36, c64, hmn, hs1, hrs, hrl]) ( insertR_ok (q.recs.map Rec.enc) r.enc j (by simpa using hjl) (by simpa using hql)) fun r S1 hr => ?_
          obtain ⟨rfl, rfl⟩ := hr
          refine ⟨_, by simp -implicitDefEqProofs [c19, c32, hil, hq, c36, c64, hmn, hs1, hrs, hrl] <;> rfl, ?_⟩
          refine WpO.run tabOk 2 (by simp -implicitDefEqProofs [c19, c32, hil, hq, c36, c64, hmn, hs1, hrs, hrl] <;> first | exact ⟨rfl, rfl⟩ | rfl) ?_
          refine WpO.nil ?_
          refine WpC.seq ?_
          refine WpC.gh (Gh.frz [4, 6]) ?_
          refine WpC.region ?_
          refine WpO.run tabOk 3 (by simp -implicitDefEqProofs [c19, c32, hil, hq, c36, c64, hmn, hs1, hrs, hrl] <;> first | exact ⟨rfl, rfl⟩ | rfl) ?_
          refine WpO.data (by simp) rfl (by simp -implicitDefEqProofs [c19, c32, hil, hq, c36, c64, hmn, hs1, hrs, hrl] <;> rfl) (by simp -implicitDefEqProofs [c19, c32, hil, hq, c36, c64, hmn, hs1, hrs, hrl] <;> rfl) (by simp -implicitDefEqProofs [c19, c32, hil, hq, c36, c64, hmn, hs1, hrs, hrl] <;> rfl) call_43 (by simp) (with_ok l i { q with recs := recS q.recs r } hl hil) (by rfl) (by simp -implicitDefEqProofs [c19, c32, hil, hq, c36, c64, hmn, hs1, hrs, hrl] <;> rfl) ?_
          refine WpO.run tabOk 2 (by simp -implicitDefEqProofs [c19, c32, hil, hq, c36, c64, hmn, hs1, hrs, hrl] <;> first | exact ⟨rfl, rfl⟩ | rfl) ?_
          refine WpO.nil ?_
          refine WpC.ret ?_
          try simp only [blockQ, seqQ]
          refine retD_i (by simp -implicitDefEqProofs [c19, c32, hil, hq, c36, c64, hmn, hs1, hrs, hrl] <;> rfl) (by simp -implicitDefEqProofs [c19, c32, hil, hq, c36, c64, hmn, hs1, hrs, hrl] <;> rfl) ?_
          simp [c19', hb1, c36', hil, hq]
end Go.Proofs.Ytndofikacmhejaa.Pay
