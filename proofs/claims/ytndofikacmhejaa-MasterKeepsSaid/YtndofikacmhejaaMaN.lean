/- What the document says of an act; what counts in a period. No statement of the seed is proved here. -/
import Derived.Test.YtndofikacmhejaaMaM
namespace Go.Proofs.Ytndofikacmhejaa.Pay
open Go Go.RowKit
set_option linter.unusedVariables false
set_option linter.unusedSimpArgs false

def noAct : Act := ⟨0, 0, 0, 0, 0, 0, 0, 0, false, 0, 0, 0, 0⟩
def hAct (l : List Act) (id : Int) : Act := (l.find? (hireB id)).getD noAct
theorem hired_at {l : List Act} {id : Int} (h : ¬ hiredI l id < 0) : ∃ j : Nat, ∃ hj : j < l.length, ∃ x, hiredI l id = j ∧ l[j] = x ∧ hAct l id = x := by
  unfold hiredI idxP at h ⊢
  split at h
  · rename_i i hi
    rw [List.findIdx?_eq_some_iff_getElem] at hi
    obtain ⟨h1, h2, h3⟩ := hi
    have : l.find? (hireB id) = some l[i] := List.find?_eq_some_iff_getElem.2 ⟨h2, i, h1, rfl, fun j hj => by simpa using h3 j hj⟩
    exact ⟨i, h1, l[i], rfl, rfl, by rw [hAct, this]; rfl⟩
  · simp at h
def credB (id cred : Int) (b : Act) : Bool := decide (b.kind = 4) && decide (b.id = id) && decide (b.cred = cred)
def mayI (l : List Act) (a : Act) : Int :=
  if a.kind = 1 then (if soundB a = false then 1 else if 0 ≤ hiredI l a.id then 6 else if 50 ≤ manyI l 1 0 then 9 else 0)
  else if a.kind = 2 then (if soundB a = false then 1 else if hiredI l a.id < 0 then 5 else if a.frm < (hAct l a.id).frm then 1 else 0)
  else if a.kind = 3 then (if hiredI l a.id < 0 then 5 else if a.frm < 22800 ∨ 35999 < a.frm ∨ a.frm ≤ (hAct l a.id).frm then 1 else 0)
  else (if hiredI l a.id < 0 then 5 else if orderB a.ord = false then 1 else if l.any (credB a.id a.cred) = true then 6 else if 8 ≤ manyI l 4 a.id then 9 else 0)

set_option maxHeartbeats 4000000 in
theorem may_ok (l : List Act) (a : Act) (hl : l.length ≤ 1000000) : Gives Try.prog 48 [.d (encAs l), .d a.enc] (.d (dI (mayI l a))) := by
  obtain ⟨f, hf⟩ : ∃ f : Act → Bool, credB a.id a.cred = f := ⟨_, rfl⟩
  have hff : ∀ x : Act, (decide (x.kind = 4) && decide (x.id = a.id) && decide (x.cred = a.cred)) = f x := fun x => by rw [← hf]; rfl
  have hhi := hired_ok l a.id (by omega)
  have hm1 := many_ok l 1 0 (by omega)
  have hm4 := many_ok l 4 a.id (by omega)
  unfold mayI
  rw [hf]
  obtain ⟨so, hso⟩ : ∃ b, soundB a = b := ⟨_, rfl⟩
  obtain ⟨oo, hoo⟩ : ∃ b, orderB a.ord = b := ⟨_, rfl⟩
  obtain ⟨m1, hm1'⟩ : ∃ m, manyI l 1 0 = m := ⟨_, rfl⟩
  obtain ⟨m4, hm4'⟩ : ∃ m, manyI l 4 a.id = m := ⟨_, rfl⟩
  have hsc := sound_ok a
  have hoc := order_ok a.ord
  rw [hso] at hsc ⊢
  rw [hoo] at hoc ⊢
  rw [hm1'] at hm1 ⊢
  rw [hm4'] at hm4 ⊢
  have hat := @hired_at l a.id
  obtain ⟨h, hh⟩ : ∃ h, hiredI l a.id = h := ⟨_, rfl⟩
  obtain ⟨y, hy⟩ : ∃ y, hAct l a.id = y := ⟨_, rfl⟩
  rw [hh] at hhi hat ⊢
  rw [hy] at hat ⊢
  refine Gives.enter tabOk Try.func48 rfl (by show 2 ≤ 98; decide) ?_
  simp only [Try.f48]
  refine WpC.seq (WpC.ops tabOk (r := []) (by simp -implicitDefEqProofs [Act.ord] <;> rfl) rfl ?_)
  refine WpC.seq ?_
  refine WpC.region ?_
  refine WpO.run tabOk 3 (by simp -implicitDefEqProofs [Act.ord] <;> first | exact ⟨rfl, rfl⟩ | rfl) ?_
  refine WpO.data (by simp) rfl (by simp -implicitDefEqProofs [Act.ord] <;> rfl) (by simp -implicitDefEqProofs [Act.ord] <;> rfl) (by simp -implicitDefEqProofs [Act.ord] <;> rfl) call_50 (by simp) (hhi) (by rfl) (by simp -implicitDefEqProofs [Act.ord] <;> rfl) ?_
  refine WpO.run tabOk 1 (by simp -implicitDefEqProofs [Act.ord] <;> first | exact ⟨rfl, rfl⟩ | rfl) ?_
  refine WpO.nil ?_
  refine WpC.seq ?_
  refine WpC.seq (WpC.ops tabOk (r := []) (by simp -implicitDefEqProofs [Act.ord] <;> rfl) rfl ?_)
  refine WpC.block ?_
  refine WpC.seq (WpC.ops tabOk (r := []) (by simp -implicitDefEqProofs [Act.ord] <;> rfl) rfl ?_)
  refine WpC.condD (a.kind = 1) (by simp -implicitDefEqProofs [Act.ord]) (fun d51 => ?_) (fun d51 => ?_)
  · refine WpC.seq ?_
    refine WpC.seq ?_
    refine WpC.region ?_
    refine WpO.run tabOk 1 (by simp -implicitDefEqProofs [Act.ord, d51] <;> first | exact ⟨rfl, rfl⟩ | rfl) ?_
    refine WpO.data (by simp) rfl (by simp -implicitDefEqProofs [Act.ord, d51] <;> rfl) (by simp -implicitDefEqProofs [Act.ord, d51] <;> rfl) (by simp -implicitDefEqProofs [Act.ord, d51] <;> rfl) call_60 (by simp) (hsc) (by rfl) (by simp -implicitDefEqProofs [Act.ord, d51] <;> rfl) ?_
    refine WpO.run tabOk 1 (by simp -implicitDefEqProofs [Act.ord, d51] <;> first | exact ⟨rfl, rfl⟩ | rfl) ?_
    refine WpO.nil ?_
    refine WpC.condD (so = false) (by simp -implicitDefEqProofs [Act.ord, d51]) (fun d55 => ?_) (fun d55 => ?_)
    · refine WpC.seq (WpC.ops tabOk (r := []) (by simp -implicitDefEqProofs [Act.ord, d51, d55] <;> rfl) rfl ?_)
      refine WpC.ret ?_
      try simp only [blockQ, seqQ]
      refine retD_i (by simp -implicitDefEqProofs [Act.ord, d51, d55] <;> rfl) (by simp -implicitDefEqProofs [Act.ord, d51, d55] <;> rfl) ?_
      simp [d51, d55]
    · refine WpC.skip ?_
      refine WpC.seq ?_
      refine WpC.seq (WpC.ops tabOk (r := []) (by simp -implicitDefEqProofs [Act.ord, d51, d55] <;> rfl) rfl ?_)
      refine WpC.condD (0 ≤ h) (by simp -implicitDefEqProofs [Act.ord, d51, d55]) (fun d57 => ?_) (fun d57 => ?_)
      · refine WpC.seq (WpC.ops tabOk (r := []) (by simp -implicitDefEqProofs [Act.ord, d51, d55, d57] <;> rfl) rfl ?_)
        refine WpC.ret ?_
        try simp only [blockQ, seqQ]
        refine retD_i (by simp -implicitDefEqProofs [Act.ord, d51, d55, d57] <;> rfl) (by simp -implicitDefEqProofs [Act.ord, d51, d55, d57] <;> rfl) ?_
        simp [d51, d55, d57]
      · refine WpC.skip ?_
        refine WpC.seq ?_
        refine WpC.region ?_
        refine WpO.run tabOk 1 (by simp -implicitDefEqProofs [Act.ord, d51, d55, d57] <;> first | exact ⟨rfl, rfl⟩ | rfl) ?_
        refine WpO.data (by simp) rfl (by simp -implicitDefEqProofs [Act.ord, d51, d55, d57] <;> rfl) (by simp -implicitDefEqProofs [Act.ord, d51, d55, d57] <;> rfl) (by simp -implicitDefEqProofs [Act.ord, d51, d55, d57] <;> rfl) call_61 (by simp) (hm1) (by rfl) (by simp -implicitDefEqProofs [Act.ord, d51, d55, d57] <;> rfl) ?_
        refine WpO.run tabOk 1 (by simp -implicitDefEqProofs [Act.ord, d51, d55, d57] <;> first | exact ⟨rfl, rfl⟩ | rfl) ?_
        refine WpO.nil ?_
        refine WpC.condD (50 ≤ m1) (by simp -implicitDefEqProofs [Act.ord, d51, d55, d57]) (fun d60 => ?_) (fun d60 => ?_)
        · refine WpC.seq (WpC.ops tabOk (r := []) (by simp -implicitDefEqProofs [Act.ord, d51, d55, d57, d60] <;> rfl) rfl ?_)
          refine WpC.ret ?_
          try simp only [blockQ, seqQ]
          refine retD_i (by simp -implicitDefEqProofs [Act.ord, d51, d55, d57, d60] <;> rfl) (by simp -implicitDefEqProofs [Act.ord, d51, d55, d57, d60] <;> rfl) ?_
          simp [d51, d55, d57, d60]
        · refine WpC.skip ?_
          refine WpC.seq (WpC.ops tabOk (r := []) (by simp -implicitDefEqProofs [Act.ord, d51, d55, d57, d60] <;> rfl) rfl ?_)
          refine WpC.ret ?_
          try simp only [blockQ, seqQ]
          refine retD_i (by simp -implicitDefEqProofs [Act.ord, d51, d55, d57, d60] <;> rfl) (by simp -implicitDefEqProofs [Act.ord, d51, d55, d57, d60] <;> rfl) ?_
          simp [d51, d55, d57, d60]
  · refine WpC.seq (WpC.ops tabOk (r := []) (by simp -implicitDefEqProofs [Act.ord, d51] <;> rfl) rfl ?_)
    refine WpC.condD (a.kind = 2) (by simp -implicitDefEqProofs [Act.ord, d51]) (fun d61 => ?_) (fun d61 => ?_)
    · refine WpC.seq ?_
      refine WpC.seq ?_
      refine WpC.region ?_
      refine WpO.run tabOk 1 (by simp -implicitDefEqProofs [Act.ord, d51, d61] <;> first | exact ⟨rfl, rfl⟩ | rfl) ?_
      refine WpO.data (by simp) rfl (by simp -implicitDefEqProofs [Act.ord, d51, d61] <;> rfl) (by simp -implicitDefEqProofs [Act.ord, d51, d61] <;> rfl) (by simp -implicitDefEqProofs [Act.ord, d51, d61] <;> rfl) call_60 (by simp) (hsc) (by rfl) (by simp -implicitDefEqProofs [Act.ord, d51, d61] <;> rfl) ?_
      refine WpO.run tabOk 1 (by simp -implicitDefEqProofs [Act.ord, d51, d61] <;> first | exact ⟨rfl, rfl⟩ | rfl) ?_
      refine WpO.nil ?_
      refine WpC.condD (so = false) (by simp -implicitDefEqProofs [Act.ord, d51, d61]) (fun d65 => ?_) (fun d65 => ?_)
      · refine WpC.seq (WpC.ops tabOk (r := []) (by simp -implicitDefEqProofs [Act.ord, d51, d61, d65] <;> rfl) rfl ?_)
        refine WpC.ret ?_
        try simp only [blockQ, seqQ]
        refine retD_i (by simp -implicitDefEqProofs [Act.ord, d51, d61, d65] <;> rfl) (by simp -implicitDefEqProofs [Act.ord, d51, d61, d65] <;> rfl) ?_
        simp [d61, d65]
      · refine WpC.skip ?_
        refine WpC.seq ?_
        refine WpC.seq (WpC.ops tabOk (r := []) (by simp -implicitDefEqProofs [Act.ord, d51, d61, d65] <;> rfl) rfl ?_)
        refine WpC.condD (h < 0) (by simp -implicitDefEqProofs [Act.ord, d51, d61, d65]) (fun d67 => ?_) (fun d67 => ?_)
        · refine WpC.seq (WpC.ops tabOk (r := []) (by simp -implicitDefEqProofs [Act.ord, d51, d61, d65, d67] <;> rfl) rfl ?_)
          refine WpC.ret ?_
          try simp only [blockQ, seqQ]
          refine retD_i (by simp -implicitDefEqProofs [Act.ord, d51, d61, d65, d67] <;> rfl) (by simp -implicitDefEqProofs [Act.ord, d51, d61, d65, d67] <;> rfl) ?_
          simp [d61, d65, d67]
        · obtain ⟨j, hj, x, hx1, hx2, hx3⟩ := hat d67
          subst hx1 hx3
          refine WpC.skip ?_
          refine WpC.seq ?_
          refine WpC.val 75 (.d (.bool (decide (a.frm < y.frm)))) ?_ ?_
          · refine WpC.drawn tabOk (by kernel_rfl) 0 (by simp) ?_
            refine DrO.run (fz := []) 3 (by simp -implicitDefEqProofs [Act.ord, d51, d61, d65, d67, hj, hx2] <;> first | exact ⟨rfl, rfl, rfl, rfl⟩ | rfl) ?_
            refine DrO.run (fz := []) 3 (by simp -implicitDefEqProofs [Act.ord, d51, d61, d65, d67, hj, hx2] <;> first | exact ⟨rfl, rfl, rfl, rfl⟩ | rfl) ?_
            refine DrO.run (fz := []) 2 (by simp -implicitDefEqProofs [Act.ord, d51, d61, d65, d67, hj, hx2] <;> first | exact ⟨rfl, rfl, rfl, rfl⟩ | rfl) ?_
            refine DrO.nil ⟨by kernel_rfl, ?_⟩
            refine ⟨rfl, Gh.only 75 8 ?_ (by first | rfl | simp -implicitDefEqProofs [Act.ord, d51, d61, d65, d67, hj, hx2]) (by rfl)⟩
            simp -implicitDefEqProofs [Act.ord, d51, d61, d65, d67, hj, hx2]
          refine WpC.condD (a.frm < y.frm) (by simp -implicitDefEqProofs [Act.ord, d51, d61, d65, d67, hj, hx2]) (fun d75 => ?_) (fun d75 => ?_)
          · refine WpC.seq (WpC.ops tabOk (r := []) (by simp -implicitDefEqProofs [Act.ord, d51, d61, d65, d67, hj, hx2, d75] <;> rfl) rfl ?_)
            refine WpC.ret ?_
            try simp only [blockQ, seqQ]
            refine retD_i (by simp -implicitDefEqProofs [Act.ord, d51, d61, d65, d67, hj, hx2, d75] <;> rfl) (by simp -implicitDefEqProofs [Act.ord, d51, d61, d65, d67, hj, hx2, d75] <;> rfl) ?_
            simp [d61, d65, d75]
          · refine WpC.skip ?_
            refine WpC.seq (WpC.ops tabOk (r := []) (by simp -implicitDefEqProofs [Act.ord, d51, d61, d65, d67, hj, hx2, d75] <;> rfl) rfl ?_)
            refine WpC.ret ?_
            try simp only [blockQ, seqQ]
            refine retD_i (by simp -implicitDefEqProofs [Act.ord, d51, d61, d65, d67, hj, hx2, d75] <;> rfl) (by simp -implicitDefEqProofs [Act.ord, d51, d61, d65, d67, hj, hx2, d75] <;> rfl) ?_
            simp [d61, d65, d75]
    · refine WpC.seq (WpC.ops tabOk (r := []) (by simp -implicitDefEqProofs [Act.ord, d51, d61] <;> rfl) rfl ?_)
      refine WpC.condD (a.kind = 3) (by simp -implicitDefEqProofs [Act.ord, d51, d61]) (fun d76 => ?_) (fun d76 => ?_)
      · refine WpC.seq ?_
        refine WpC.seq (WpC.ops tabOk (r := []) (by simp -implicitDefEqProofs [Act.ord, d51, d61, d76] <;> rfl) rfl ?_)
        refine WpC.condD (h < 0) (by simp -implicitDefEqProofs [Act.ord, d51, d61, d76]) (fun d79 => ?_) (fun d79 => ?_)
        · refine WpC.seq (WpC.ops tabOk (r := []) (by simp -implicitDefEqProofs [Act.ord, d51, d61, d76, d79] <;> rfl) rfl ?_)
          refine WpC.ret ?_
          try simp only [blockQ, seqQ]
          refine retD_i (by simp -implicitDefEqProofs [Act.ord, d51, d61, d76, d79] <;> rfl) (by simp -implicitDefEqProofs [Act.ord, d51, d61, d76, d79] <;> rfl) ?_
          simp [d76, d79]
        · obtain ⟨j, hj, x, hx1, hx2, hx3⟩ := hat d79
          subst hx1 hx3
          refine WpC.skip ?_
          refine WpC.seq ?_
          refine WpC.val 97 (.d (.bool (decide (a.frm < 22800 ∨ 35999 < a.frm ∨ a.frm ≤ y.frm)))) ?_ ?_
          · refine WpC.drawn tabOk (by kernel_rfl) 0 (by simp) ?_
            refine DrO.run (fz := []) 3 (by simp -implicitDefEqProofs [Act.ord, d51, d61, d76, d79, hj, hx2] <;> first | exact ⟨rfl, rfl, rfl, rfl⟩ | rfl) ?_
            refine DrO.run (fz := []) 1 (by simp -implicitDefEqProofs [Act.ord, d51, d61, d76, d79, hj, hx2] <;> first | exact ⟨rfl, rfl, rfl, rfl⟩ | rfl) ?_
            refine DrO.splitB 83 (by simp -implicitDefEqProofs [Act.ord, d51, d61, d76, d79, hj, hx2] <;> rfl) (by rfl) (fun g83 => ?_) (fun g83 => ?_)
            · try (exfalso; revert g83; simp; done)
              all_goals
                have g83' := g83; first | simp only [dT, dF] at g83' | try simp at g83'
                refine DrO.run (fz := []) 3 (by simp -implicitDefEqProofs [Act.ord, d51, d61, d76, d79, hj, hx2, g83] <;> first | exact ⟨rfl, rfl, rfl, rfl⟩ | rfl) ?_
                refine DrO.run (fz := []) 3 (by simp -implicitDefEqProofs [Act.ord, d51, d61, d76, d79, hj, hx2, g83] <;> first | exact ⟨rfl, rfl, rfl, rfl⟩ | rfl) ?_
                refine DrO.run (fz := []) 3 (by simp -implicitDefEqProofs [Act.ord, d51, d61, d76, d79, hj, hx2, g83] <;> first | exact ⟨rfl, rfl, rfl, rfl⟩ | rfl) ?_
                refine DrO.run (fz := []) 3 (by simp -implicitDefEqProofs [Act.ord, d51, d61, d76, d79, hj, hx2, g83] <;> first | exact ⟨rfl, rfl, rfl, rfl⟩ | rfl) ?_
                refine DrO.run (fz := []) 2 (by simp -implicitDefEqProofs [Act.ord, d51, d61, d76, d79, hj, hx2, g83] <;> first | exact ⟨rfl, rfl, rfl, rfl⟩ | rfl) ?_
                refine DrO.nil ⟨by kernel_rfl, ?_⟩
                refine ⟨rfl, Gh.only 97 18 ?_ (by first | rfl | simp -implicitDefEqProofs [Act.ord, d51, d61, d76, d79, hj, hx2, g83]) (by rfl)⟩
                simp -implicitDefEqProofs [Act.ord, d51, d61, d76, d79, hj, hx2, g83, g83']
            · try (exfalso; revert g83; simp; done)
              all_goals
                have g83' := g83; first | simp only [dT, dF] at g83' | try simp at g83'
                refine DrO.run (fz := []) 3 (by simp -implicitDefEqProofs [Act.ord, d51, d61, d76, d79, hj, hx2, g83] <;> first | exact ⟨rfl, rfl, rfl, rfl⟩ | rfl) ?_
                refine DrO.run (fz := []) 2 (by simp -implicitDefEqProofs [Act.ord, d51, d61, d76, d79, hj, hx2, g83] <;> first | exact ⟨rfl, rfl, rfl, rfl⟩ | rfl) ?_
                refine DrO.splitB 88 (by simp -implicitDefEqProofs [Act.ord, d51, d61, d76, d79, hj, hx2, g83] <;> rfl) (by rfl) (fun g88 => ?_) (fun g88 => ?_)
                · try (exfalso; revert g88; simp; done)
                  all_goals
                    have g88' := g88; first | simp only [dT, dF] at g88' | try simp at g88'
                    refine DrO.run (fz := []) 3 (by simp -implicitDefEqProofs [Act.ord, d51, d61, d76, d79, hj, hx2, g83, g88] <;> first | exact ⟨rfl, rfl, rfl, rfl⟩ | rfl) ?_
                    refine DrO.run (fz := []) 3 (by simp -implicitDefEqProofs [Act.ord, d51, d61, d76, d79, hj, hx2, g83, g88] <;> first | exact ⟨rfl, rfl, rfl, rfl⟩ | rfl) ?_
                    refine DrO.run (fz := []) 3 (by simp -implicitDefEqProofs [Act.ord, d51, d61, d76, d79, hj, hx2, g83, g88] <;> first | exact ⟨rfl, rfl, rfl, rfl⟩ | rfl) ?_
                    refine DrO.nil ⟨by kernel_rfl, ?_⟩
                    refine ⟨rfl, Gh.only 97 18 ?_ (by first | rfl | simp -implicitDefEqProofs [Act.ord, d51, d61, d76, d79, hj, hx2, g83, g88]) (by rfl)⟩
                    simp -implicitDefEqProofs [Act.ord, d51, d61, d76, d79, hj, hx2, g83, g88, g83', g88']
                · try (exfalso; revert g88; simp; done)
                  all_goals
                    have g88' := g88; first | simp only [dT, dF] at g88' | try simp at g88'
                    refine DrO.run (fz := []) 3 (by simp -implicitDefEqProofs [Act.ord, d51, d61, d76, d79, hj, hx2, g83, g88] <;> first | exact ⟨rfl, rfl, rfl, rfl⟩ | rfl) ?_
                    refine DrO.run (fz := []) 3 (by simp -implicitDefEqProofs [Act.ord, d51, d61, d76, d79, hj, hx2, g83, g88] <;> first | exact ⟨rfl, rfl, rfl, rfl⟩ | rfl) ?_
                    refine DrO.run (fz := []) 3 (by simp -implicitDefEqProofs [Act.ord, d51, d61, d76, d79, hj, hx2, g83, g88] <;> first | exact ⟨rfl, rfl, rfl, rfl⟩ | rfl) ?_
                    refine DrO.nil ⟨by kernel_rfl, ?_⟩
                    refine ⟨rfl, Gh.only 97 18 ?_ (by first | rfl | simp -implicitDefEqProofs [Act.ord, d51, d61, d76, d79, hj, hx2, g83, g88]) (by rfl)⟩
                    simp -implicitDefEqProofs [Act.ord, d51, d61, d76, d79, hj, hx2, g83, g88, g83', g88']
          refine WpC.condD (a.frm < 22800 ∨ 35999 < a.frm ∨ a.frm ≤ y.frm) (by simp -implicitDefEqProofs [Act.ord, d51, d61, d76, d79, hj, hx2]) (fun d97 => ?_) (fun d97 => ?_)
          · refine WpC.seq (WpC.ops tabOk (r := []) (by simp -implicitDefEqProofs [Act.ord, d51, d61, d76, d79, hj, hx2, d97] <;> rfl) rfl ?_)
            refine WpC.ret ?_
            try simp only [blockQ, seqQ]
            refine retD_i (by simp -implicitDefEqProofs [Act.ord, d51, d61, d76, d79, hj, hx2, d97] <;> rfl) (by simp -implicitDefEqProofs [Act.ord, d51, d61, d76, d79, hj, hx2, d97] <;> rfl) ?_
            simp [d76, d97]
          · refine WpC.skip ?_
            refine WpC.seq (WpC.ops tabOk (r := []) (by simp -implicitDefEqProofs [Act.ord, d51, d61, d76, d79, hj, hx2, d97] <;> rfl) rfl ?_)
            refine WpC.ret ?_
            try simp only [blockQ, seqQ]
            refine retD_i (by simp -implicitDefEqProofs [Act.ord, d51, d61, d76, d79, hj, hx2, d97] <;> rfl) (by simp -implicitDefEqProofs [Act.ord, d51, d61, d76, d79, hj, hx2, d97] <;> rfl) ?_
            simp [d76, d97]
      · refine WpC.seq ?_
        refine WpC.seq (WpC.ops tabOk (r := []) (by simp -implicitDefEqProofs [Act.ord, d51, d61, d76] <;> rfl) rfl ?_)
        refine WpC.condD (h < 0) (by simp -implicitDefEqProofs [Act.ord, d51, d61, d76]) (fun d15 => ?_) (fun d15 => ?_)
        · refine WpC.seq (WpC.ops tabOk (r := []) (by simp -implicitDefEqProofs [Act.ord, d51, d61, d76, d15] <;> rfl) rfl ?_)
          refine WpC.ret ?_
          try simp only [blockQ, seqQ]
          refine retD_i (by simp -implicitDefEqProofs [Act.ord, d51, d61, d76, d15] <;> rfl) (by simp -implicitDefEqProofs [Act.ord, d51, d61, d76, d15] <;> rfl) ?_
          simp [d51, d61, d76, d15]
        · refine WpC.skip ?_
          refine WpC.seq ?_
          refine WpC.seq ?_
          refine WpC.region ?_
          refine WpO.run tabOk 2 (by simp -implicitDefEqProofs [Act.ord, d51, d61, d76, d15] <;> first | exact ⟨rfl, rfl⟩ | rfl) ?_
          refine WpO.data (by simp) rfl (by simp -implicitDefEqProofs [Act.ord, d51, d61, d76, d15] <;> rfl) (by simp -implicitDefEqProofs [Act.ord, d51, d61, d76, d15] <;> rfl) (by simp -implicitDefEqProofs [Act.ord, d51, d61, d76, d15] <;> rfl) call_62 (by simp) (hoc) (by rfl) (by simp -implicitDefEqProofs [Act.ord, d51, d61, d76, d15] <;> rfl) ?_
          refine WpO.run tabOk 1 (by simp -implicitDefEqProofs [Act.ord, d51, d61, d76, d15] <;> first | exact ⟨rfl, rfl⟩ | rfl) ?_
          refine WpO.nil ?_
          refine WpC.condD (oo = false) (by simp -implicitDefEqProofs [Act.ord, d51, d61, d76, d15]) (fun d19 => ?_) (fun d19 => ?_)
          · refine WpC.seq (WpC.ops tabOk (r := []) (by simp -implicitDefEqProofs [Act.ord, d51, d61, d76, d15, d19] <;> rfl) rfl ?_)
            refine WpC.ret ?_
            try simp only [blockQ, seqQ]
            refine retD_i (by simp -implicitDefEqProofs [Act.ord, d51, d61, d76, d15, d19] <;> rfl) (by simp -implicitDefEqProofs [Act.ord, d51, d61, d76, d15, d19] <;> rfl) ?_
            simp [d51, d61, d76, d15, d19]
          · refine WpC.skip ?_
            refine WpC.seq ?_
            refine WpC.seq (WpC.ops tabOk (r := []) (by simp -implicitDefEqProofs [Act.ord, d51, d61, d76, d15, d19] <;> rfl) rfl ?_)
            refine WpC.block ?_
            refine WpC.loopK [0, 3, 20, 21] [22] (l.length) (() : Unit) (fun k _ => [(22, .d (.int .i64 k))]) (fun k _ => [.cells 86 (a.cs.map .d)]) (fun k _ => (l.take k).any f = false) (by simp -implicitDefEqProofs [Act.ord, d51, d61, d76, d15, d19] <;> rfl) (Gh.cut' [22, 0, 3, 20, 21] 1 (by simp -implicitDefEqProofs [Act.ord, d51, d61, d76, d15, d19]) (by simp -implicitDefEqProofs [Act.ord, d51, d61, d76, d15, d19]) rfl (by simp) (by simp) (by simp)) (by simp) ?_
            rintro k ⟨⟩ hk hi
            simp only [List.cons_append, List.nil_append]
            refine WpC.seq (WpC.ops tabOk (r := []) (by simp -implicitDefEqProofs [Act.ord, d51, d61, d76, d15, d19] <;> rfl) rfl ?_)
            refine WpC.seq (WpC.condD (k < l.length) (by simp -implicitDefEqProofs [Act.ord, d51, d61, d76, d15, d19] <;> omega) (fun hlt => ?_) (fun hge => ?_))
            · refine WpC.skip ?_
              have hst := any_take f hlt
              obtain ⟨x, hx⟩ : ∃ x, l[k] = x := ⟨_, rfl⟩
              have hw : IntKind.i64.wrap ((k : Int) + 1) = k + 1 := wrapI (by omega) (by omega)
              rw [hi, hx] at hst
              refine WpC.seq ?_
              refine WpC.block ?_
              refine WpC.seq (WpC.ops tabOk (r := []) (by simp -implicitDefEqProofs [Act.ord, d51, d61, d76, d15, d19, hlt, hx, hw] <;> rfl) rfl ?_)
              refine WpC.seq ?_
              refine WpC.val 44 (.d (.bool (f x))) ?_ ?_
              · refine WpC.region ?_
                refine WpO.run tabOk 4 (by simp -implicitDefEqProofs [Act.ord, d51, d61, d76, d15, d19, hlt, hx, hw] <;> first | exact ⟨rfl, rfl⟩ | rfl) ?_
                refine WpO.splitB 29 (by simp -implicitDefEqProofs [Act.ord, d51, d61, d76, d15, d19, hlt, hx, hw] <;> rfl) (by rfl) (fun g29 => ?_) (fun g29 => ?_)
                · try (exfalso; revert g29; simp; done)
                  all_goals
                    have g29' := g29; first | simp only [dT, dF] at g29' | try simp at g29'
                    refine WpO.run tabOk 7 (by simp -implicitDefEqProofs [Act.ord, d51, d61, d76, d15, d19, hlt, hx, hw, g29] <;> first | exact ⟨rfl, rfl⟩ | rfl) ?_
                    refine WpO.splitB 36 (by simp -implicitDefEqProofs [Act.ord, d51, d61, d76, d15, d19, hlt, hx, hw, g29] <;> rfl) (by rfl) (fun g36 => ?_) (fun g36 => ?_)
                    · try (exfalso; revert g36; simp; done)
                      all_goals
                        have g36' := g36; first | simp only [dT, dF] at g36' | try simp at g36'
                        refine WpO.run tabOk 8 (by simp -implicitDefEqProofs [Act.ord, d51, d61, d76, d15, d19, hlt, hx, hw, g29, g36] <;> first | exact ⟨rfl, rfl⟩ | rfl) ?_
                        refine WpO.nil ?_
                        refine ⟨rfl, Gh.only 44 21 ?_ (by first | rfl | simp -implicitDefEqProofs [Act.ord, d51, d61, d76, d15, d19, hlt, hx, hw, g29, g36]) (by rfl)⟩
                        simp -implicitDefEqProofs [Act.ord, d51, d61, d76, d15, d19, hlt, hx, hw, g29, g36, g29', g36', ← hff]
                    · try (exfalso; revert g36; simp; done)
                      all_goals
                        have g36' := g36; first | simp only [dT, dF] at g36' | try simp at g36'
                        refine WpO.run tabOk 8 (by simp -implicitDefEqProofs [Act.ord, d51, d61, d76, d15, d19, hlt, hx, hw, g29, g36] <;> first | exact ⟨rfl, rfl⟩ | rfl) ?_
                        refine WpO.nil ?_
                        refine ⟨rfl, Gh.only 44 21 ?_ (by first | rfl | simp -implicitDefEqProofs [Act.ord, d51, d61, d76, d15, d19, hlt, hx, hw, g29, g36]) (by rfl)⟩
                        simp -implicitDefEqProofs [Act.ord, d51, d61, d76, d15, d19, hlt, hx, hw, g29, g36, g29', g36', ← hff]
                · try (exfalso; revert g29; simp; done)
                  all_goals
                    have g29' := g29; first | simp only [dT, dF] at g29' | try simp at g29'
                    refine WpO.run tabOk 15 (by simp -implicitDefEqProofs [Act.ord, d51, d61, d76, d15, d19, hlt, hx, hw, g29] <;> first | exact ⟨rfl, rfl⟩ | rfl) ?_
                    refine WpO.nil ?_
                    refine ⟨rfl, Gh.only 44 20 ?_ (by first | rfl | simp -implicitDefEqProofs [Act.ord, d51, d61, d76, d15, d19, hlt, hx, hw, g29]) (by rfl)⟩
                    simp -implicitDefEqProofs [Act.ord, d51, d61, d76, d15, d19, hlt, hx, hw, g29, g29', ← hff]
              refine WpC.condR (by simp -implicitDefEqProofs [Act.ord, d51, d61, d76, d15, d19, hlt, hx, hw] <;> rfl) (by rfl) (fun c44 => ?_) (fun c44 => ?_)
              · have c44' := c44; first | simp only [dT, dF] at c44' | try simp at c44'
                refine WpC.seq (WpC.ops tabOk (r := []) (by simp -implicitDefEqProofs [Act.ord, d51, d61, d76, d15, d19, hlt, hx, hw, c44] <;> rfl) rfl ?_)
                refine WpC.ret ?_
                try simp only [blockQ, seqQ]
                refine retD_i (by simp -implicitDefEqProofs [Act.ord, d51, d61, d76, d15, d19, hlt, hx, hw, c44] <;> rfl) (by simp -implicitDefEqProofs [Act.ord, d51, d61, d76, d15, d19, hlt, hx, hw, c44] <;> rfl) ?_
                have : l.any f = true := by
                  rw [List.any_eq_true]
                  exact ⟨x, hx ▸ List.getElem_mem hlt, by simpa using c44⟩
                simp [d51, d61, d76, d15, d19, this]
              · have c44' := c44; first | simp only [dT, dF] at c44' | try simp at c44'
                refine WpC.skip ?_
                refine WpC.ops tabOk (r := []) (by simp -implicitDefEqProofs [Act.ord, d51, d61, d76, d15, d19, hlt, hx, hw, c44] <;> rfl) rfl ?_
                exact ⟨hlt, (), by rw [hst]; simpa using c44, Gh.cut' [22, 0, 3, 20, 21] 1 (by simp -implicitDefEqProofs [Act.ord, d51, d61, d76, d15, d19, hlt, hx, hw, c44, c44']) (by simp -implicitDefEqProofs [Act.ord, d51, d61, d76, d15, d19, hlt, hx, hw, c44, c44']) rfl (by simp) (by simp) (by simp)⟩
            · refine WpC.exit ?_
              have hkn : k = l.length := by omega
              subst hkn
              rw [List.take_of_length_le (Nat.le_refl _)] at hi
              refine WpC.seq ?_
              refine WpC.region ?_
              refine WpO.run tabOk 3 (by simp -implicitDefEqProofs [Act.ord, d51, d61, d76, d15, d19] <;> first | exact ⟨rfl, rfl⟩ | rfl) ?_
              refine WpO.data (by simp) rfl (by simp -implicitDefEqProofs [Act.ord, d51, d61, d76, d15, d19] <;> rfl) (by simp -implicitDefEqProofs [Act.ord, d51, d61, d76, d15, d19] <;> rfl) (by simp -implicitDefEqProofs [Act.ord, d51, d61, d76, d15, d19] <;> rfl) call_61 (by simp) (hm4) (by rfl) (by simp -implicitDefEqProofs [Act.ord, d51, d61, d76, d15, d19] <;> rfl) ?_
              refine WpO.run tabOk 1 (by simp -implicitDefEqProofs [Act.ord, d51, d61, d76, d15, d19] <;> first | exact ⟨rfl, rfl⟩ | rfl) ?_
              refine WpO.nil ?_
              refine WpC.condD (8 ≤ m4) (by simp -implicitDefEqProofs [Act.ord, d51, d61, d76, d15, d19]) (fun d50 => ?_) (fun d50 => ?_)
              · refine WpC.seq (WpC.ops tabOk (r := []) (by simp -implicitDefEqProofs [Act.ord, d51, d61, d76, d15, d19, d50] <;> rfl) rfl ?_)
                refine WpC.ret ?_
                try simp only [blockQ, seqQ]
                refine retD_i (by simp -implicitDefEqProofs [Act.ord, d51, d61, d76, d15, d19, d50] <;> rfl) (by simp -implicitDefEqProofs [Act.ord, d51, d61, d76, d15, d19, d50] <;> rfl) ?_
                simp [d51, d61, d76, d15, d19, hi, d50]
              · refine WpC.skip ?_
                refine WpC.seq (WpC.ops tabOk (r := []) (by simp -implicitDefEqProofs [Act.ord, d51, d61, d76, d15, d19, d50] <;> rfl) rfl ?_)
                refine WpC.ret ?_
                try simp only [blockQ, seqQ]
                refine retD_i (by simp -implicitDefEqProofs [Act.ord, d51, d61, d76, d15, d19, d50] <;> rfl) (by simp -implicitDefEqProofs [Act.ord, d51, d61, d76, d15, d19, d50] <;> rfl) ?_
                simp [d51, d61, d76, d15, d19, hi, d50]

def atI (l : List Act) (id when : Int) : Int :=
  if hiredI l id < 0 ∨ when < (hAct l id).frm ∨ (goneI l id ≠ 0 ∧ goneI l id ≤ when) then -1 else
    (((List.range l.length).foldl (fun (j k : Nat) => if (((l[k]?).getD noAct).kind = 1 ∨ ((l[k]?).getD noAct).kind = 2) ∧ ((l[k]?).getD noAct).id = id ∧ ((l[k]?).getD noAct).frm ≤ when ∧ ((l[j]?).getD noAct).frm ≤ ((l[k]?).getD noAct).frm then k else j) (hiredI l id).toNat : Nat) : Int)
set_option maxHeartbeats 4000000 in
theorem atR_ok (l : List Act) (id when : Int) (hl : l.length ≤ 1000000) : Gives Try.prog 28 [.d (encAs l), .d (dI id), .d (dI when)] (.d (dI (atI l id when))) := by
  unfold atI
  have hhi := hired_ok l id (by omega)
  have hgo := gone_ok l id (by omega)
  have hat := @hired_at l id
  obtain ⟨h, hh⟩ : ∃ h, hiredI l id = h := ⟨_, rfl⟩
  obtain ⟨y, hy⟩ : ∃ y, hAct l id = y := ⟨_, rfl⟩
  obtain ⟨g, hg⟩ : ∃ g, goneI l id = g := ⟨_, rfl⟩
  rw [hh] at hhi hat ⊢
  rw [hy] at hat ⊢
  rw [hg] at hgo ⊢
  have hat2 : ¬ h < 0 → ∃ j : Nat, ∃ hj : j < l.length, h = j ∧ l[j] = y := fun q => by
    obtain ⟨j, hj, x, hx1, hx2, hx3⟩ := hat q
    exact ⟨j, hj, hx1, by rw [hx2, hx3]⟩
  refine Gives.enter tabOk Try.func28 rfl (by show 3 ≤ 79; decide) ?_
  simp only [Try.f28]
  refine WpC.seq (WpC.ops tabOk (r := []) (by simp -implicitDefEqProofs <;> rfl) rfl ?_)
  refine WpC.seq ?_
  refine WpC.region ?_
  refine WpO.run tabOk 2 (by simp -implicitDefEqProofs <;> first | exact ⟨rfl, rfl⟩ | rfl) ?_
  refine WpO.data (by simp) rfl (by simp -implicitDefEqProofs <;> rfl) (by simp -implicitDefEqProofs <;> rfl) (by simp -implicitDefEqProofs <;> rfl) call_50 (by simp) (hhi) (by rfl) (by simp -implicitDefEqProofs <;> rfl) ?_
  refine WpO.run tabOk 1 (by simp -implicitDefEqProofs <;> first | exact ⟨rfl, rfl⟩ | rfl) ?_
  refine WpO.nil ?_
  refine WpC.seq ?_
  refine WpC.seq ?_
  refine WpC.val 36 (.d (.bool (decide (h < 0 ∨ when < y.frm ∨ (g ≠ 0 ∧ g ≤ when))))) ?_ ?_
  · refine WpC.region ?_
    refine WpO.run tabOk 3 (by simp -implicitDefEqProofs <;> first | exact ⟨rfl, rfl⟩ | rfl) ?_
    refine WpO.splitB 15 (by simp -implicitDefEqProofs <;> rfl) (by rfl) (fun g15 => ?_) (fun g15 => ?_)
    · try (exfalso; revert g15; simp; done)
      all_goals
        have g15' := g15; first | simp only [dT, dF] at g15' | try simp at g15'
        refine WpO.run tabOk 21 (by simp -implicitDefEqProofs [g15] <;> first | exact ⟨rfl, rfl⟩ | rfl) ?_
        refine WpO.nil ?_
        refine ⟨rfl, Gh.only 36 25 ?_ (by first | rfl | simp -implicitDefEqProofs [g15]) (by rfl)⟩
        simp -implicitDefEqProofs [g15, g15', Classical.not_imp] <;> omega
    · try (exfalso; revert g15; simp; done)
      all_goals
        have g15' := g15; first | simp only [dT, dF] at g15' | try simp at g15'
        obtain ⟨j, hj, hx1, hx2⟩ := hat2 (by simpa using g15)
        refine WpO.run tabOk 9 (by simp -implicitDefEqProofs [g15, hj, hx1, hx2] <;> first | exact ⟨rfl, rfl⟩ | rfl) ?_
        refine WpO.splitB 24 (by simp -implicitDefEqProofs [g15, hj, hx1, hx2] <;> rfl) (by rfl) (fun g24 => ?_) (fun g24 => ?_)
        · try (exfalso; revert g24; simp; done)
          all_goals
            have g24' := g24; first | simp only [dT, dF] at g24' | try simp at g24'
            refine WpO.run tabOk 12 (by simp -implicitDefEqProofs [g15, hj, hx1, hx2, g24] <;> first | exact ⟨rfl, rfl⟩ | rfl) ?_
            refine WpO.nil ?_
            refine ⟨rfl, Gh.only 36 26 ?_ (by first | rfl | simp -implicitDefEqProofs [g15, hj, hx1, hx2, g24]) (by rfl)⟩
            simp -implicitDefEqProofs [g15, hj, hx1, hx2, g24, g15', g24', Classical.not_imp] <;> omega
        · try (exfalso; revert g24; simp; done)
          all_goals
            have g24' := g24; first | simp only [dT, dF] at g24' | try simp at g24'
            refine WpO.run tabOk 2 (by simp -implicitDefEqProofs [g15, hj, hx1, hx2, g24] <;> first | exact ⟨rfl, rfl⟩ | rfl) ?_
            refine WpO.data (by simp) rfl (by simp -implicitDefEqProofs [g15, hj, hx1, hx2, g24] <;> rfl) (by simp -implicitDefEqProofs [g15, hj, hx1, hx2, g24] <;> rfl) (by simp -implicitDefEqProofs [g15, hj, hx1, hx2, g24] <;> rfl) call_51 (by simp) (hgo) (by rfl) (by simp -implicitDefEqProofs [g15, hj, hx1, hx2, g24] <;> rfl) ?_
            refine WpO.run tabOk 2 (by simp -implicitDefEqProofs [g15, hj, hx1, hx2, g24] <;> first | exact ⟨rfl, rfl⟩ | rfl) ?_
            refine WpO.splitB 29 (by simp -implicitDefEqProofs [g15, hj, hx1, hx2, g24] <;> rfl) (by rfl) (fun g29 => ?_) (fun g29 => ?_)
            · try (exfalso; revert g29; simp; done)
              all_goals
                have g29' := g29; first | simp only [dT, dF] at g29' | try simp at g29'
                refine WpO.run tabOk 3 (by simp -implicitDefEqProofs [g15, hj, hx1, hx2, g24, g29] <;> first | exact ⟨rfl, rfl⟩ | rfl) ?_
                refine WpO.data (by simp) rfl (by simp -implicitDefEqProofs [g15, hj, hx1, hx2, g24, g29] <;> rfl) (by simp -implicitDefEqProofs [g15, hj, hx1, hx2, g24, g29] <;> rfl) (by simp -implicitDefEqProofs [g15, hj, hx1, hx2, g24, g29] <;> rfl) call_51 (by simp) (hgo) (by rfl) (by simp -implicitDefEqProofs [g15, hj, hx1, hx2, g24, g29] <;> rfl) ?_
                refine WpO.run tabOk 3 (by simp -implicitDefEqProofs [g15, hj, hx1, hx2, g24, g29] <;> first | exact ⟨rfl, rfl⟩ | rfl) ?_
                refine WpO.nil ?_
                refine ⟨rfl, Gh.only 36 27 ?_ (by first | rfl | simp -implicitDefEqProofs [g15, hj, hx1, hx2, g24, g29]) (by rfl)⟩
                simp -implicitDefEqProofs [g15, hj, hx1, hx2, g24, g29, g15', g24', g29', Classical.not_imp] <;> omega
            · try (exfalso; revert g29; simp; done)
              all_goals
                have g29' := g29; first | simp only [dT, dF] at g29' | try simp at g29'
                refine WpO.run tabOk 7 (by simp -implicitDefEqProofs [g15, hj, hx1, hx2, g24, g29] <;> first | exact ⟨rfl, rfl⟩ | rfl) ?_
                refine WpO.nil ?_
                refine ⟨rfl, Gh.only 36 27 ?_ (by first | rfl | simp -implicitDefEqProofs [g15, hj, hx1, hx2, g24, g29]) (by rfl)⟩
                simp -implicitDefEqProofs [g15, hj, hx1, hx2, g24, g29, g15', g24', g29', Classical.not_imp] <;> omega
  refine WpC.condD (h < 0 ∨ when < y.frm ∨ (g ≠ 0 ∧ g ≤ when)) (by simp -implicitDefEqProofs) (fun d36 => ?_) (fun d36 => ?_)
  · refine WpC.seq (WpC.ops tabOk (r := []) (by simp -implicitDefEqProofs [d36] <;> rfl) rfl ?_)
    refine WpC.ret ?_
    try simp only [blockQ, seqQ]
    refine retD_i (by simp -implicitDefEqProofs [d36] <;> rfl) (by simp -implicitDefEqProofs [d36] <;> rfl) ?_
    simp [d36]
  · obtain ⟨j, hj, hx1, hx2⟩ := hat2 (by omega)
    obtain ⟨F, hF⟩ : ∃ F : Nat → Nat → Nat, (fun (j k : Nat) => if (((l[k]?).getD noAct).kind = 1 ∨ ((l[k]?).getD noAct).kind = 2) ∧ ((l[k]?).getD noAct).id = id ∧ ((l[k]?).getD noAct).frm ≤ when ∧ ((l[j]?).getD noAct).frm ≤ ((l[k]?).getD noAct).frm then k else j) = F := ⟨_, rfl⟩
    have hjt : h.toNat = j := by omega
    rw [if_neg d36, hF, hjt]
    refine WpC.skip ?_
    refine WpC.seq ?_
    refine WpC.seq (WpC.ops tabOk (r := []) (by simp -implicitDefEqProofs [d36, hj, hx1] <;> rfl) rfl ?_)
    refine WpC.block ?_
    refine WpC.loopK [0, 1, 2] [7, 8] (l.length) (j : Nat) (fun k a => [(7, .d (dI (a : Nat))), (8, .d (.int .i64 k))]) (fun k a => []) (fun k a => a < l.length ∧ (List.range k).foldl F j = a) (by simp -implicitDefEqProofs [d36, hj, hx1] <;> rfl) (Gh.cut' [7, 8, 0, 1, 2] 0 (by simp -implicitDefEqProofs [d36, hj, hx1]) (by simp -implicitDefEqProofs [d36, hj, hx1]) rfl (by simp) (by simp) (by simp)) (by simp [hj]) ?_
    rintro k a hk hi
    simp only [List.cons_append, List.nil_append]
    refine WpC.seq ?_
    refine WpC.seq (WpC.ops tabOk (r := []) (by simp -implicitDefEqProofs [d36, hj, hx1] <;> rfl) rfl ?_)
    refine WpC.condD (k < l.length) (by simp -implicitDefEqProofs [d36, hj, hx1] <;> omega) (fun hlt => ?_) (fun hge => ?_)
    · refine WpC.skip ?_
      obtain ⟨ha, hfo⟩ := hi
      obtain ⟨x, hx⟩ : ∃ x, l[k] = x := ⟨_, rfl⟩
      obtain ⟨z, hz⟩ : ∃ z, l[a] = z := ⟨_, rfl⟩
      have hw : IntKind.i64.wrap ((k : Int) + 1) = k + 1 := wrapI (by omega) (by omega)
      have hFk : F a k = if (x.kind = 1 ∨ x.kind = 2) ∧ x.id = id ∧ x.frm ≤ when ∧ z.frm ≤ x.frm then k else a := by
        rw [← hF]; simp only [List.getElem?_eq_getElem hlt, List.getElem?_eq_getElem ha, hx, hz, Option.getD_some]
      have hst : (List.range (k + 1)).foldl F j = F a k := by rw [List.range_succ, List.foldl_append, hfo]; rfl
      refine WpC.seq ?_
      refine WpC.block ?_
      refine WpC.seq (WpC.ops tabOk (r := []) (by simp -implicitDefEqProofs [d36, hj, hx1, hlt, hx, hw, ha, hz] <;> rfl) rfl ?_)
      refine WpC.seq ?_
      refine WpC.val 76 (.d (.bool (decide ((x.kind = 1 ∨ x.kind = 2) ∧ x.id = id ∧ x.frm ≤ when ∧ z.frm ≤ x.frm)))) ?_ ?_
      · refine WpC.drawn tabOk (by kernel_rfl) 0 (by simp) ?_
        refine DrO.run (fz := []) 3 (by simp -implicitDefEqProofs [d36, hj, hx1, hlt, hx, hw, ha, hz] <;> first | exact ⟨rfl, rfl, rfl, rfl⟩ | rfl) ?_
        refine DrO.run (fz := []) 1 (by simp -implicitDefEqProofs [d36, hj, hx1, hlt, hx, hw, ha, hz] <;> first | exact ⟨rfl, rfl, rfl, rfl⟩ | rfl) ?_
        refine DrO.splitB 50 (by simp -implicitDefEqProofs [d36, hj, hx1, hlt, hx, hw, ha, hz] <;> rfl) (by rfl) (fun g50 => ?_) (fun g50 => ?_)
        · try (exfalso; revert g50; simp; done)
          all_goals
            have g50' := g50; first | simp only [dT, dF] at g50' | try simp at g50'
            refine DrO.run (fz := []) 3 (by simp -implicitDefEqProofs [d36, hj, hx1, hlt, hx, hw, ha, hz, g50] <;> first | exact ⟨rfl, rfl, rfl, rfl⟩ | rfl) ?_
            refine DrO.run (fz := []) 3 (by simp -implicitDefEqProofs [d36, hj, hx1, hlt, hx, hw, ha, hz, g50] <;> first | exact ⟨rfl, rfl, rfl, rfl⟩ | rfl) ?_
            refine DrO.run (fz := []) 3 (by simp -implicitDefEqProofs [d36, hj, hx1, hlt, hx, hw, ha, hz, g50] <;> first | exact ⟨rfl, rfl, rfl, rfl⟩ | rfl) ?_
            refine DrO.run (fz := []) 2 (by simp -implicitDefEqProofs [d36, hj, hx1, hlt, hx, hw, ha, hz, g50] <;> first | exact ⟨rfl, rfl, rfl, rfl⟩ | rfl) ?_
            refine DrO.splitB 61 (by simp -implicitDefEqProofs [d36, hj, hx1, hlt, hx, hw, ha, hz, g50] <;> rfl) (by rfl) (fun g61 => ?_) (fun g61 => ?_)
            · try (exfalso; revert g61; simp; done)
              all_goals
                have g61' := g61; first | simp only [dT, dF] at g61' | try simp at g61'
                refine DrO.run (fz := []) 3 (by simp -implicitDefEqProofs [d36, hj, hx1, hlt, hx, hw, ha, hz, g50, g61] <;> first | exact ⟨rfl, rfl, rfl, rfl⟩ | rfl) ?_
                refine DrO.run (fz := []) 3 (by simp -implicitDefEqProofs [d36, hj, hx1, hlt, hx, hw, ha, hz, g50, g61] <;> first | exact ⟨rfl, rfl, rfl, rfl⟩ | rfl) ?_
                refine DrO.splitB 67 (by simp -implicitDefEqProofs [d36, hj, hx1, hlt, hx, hw, ha, hz, g50, g61] <;> rfl) (by rfl) (fun g67 => ?_) (fun g67 => ?_)
                · try (exfalso; revert g67; simp; done)
                  all_goals
                    have g67' := g67; first | simp only [dT, dF] at g67' | try simp at g67'
                    refine DrO.run (fz := []) 3 (by simp -implicitDefEqProofs [d36, hj, hx1, hlt, hx, hw, ha, hz, g50, g61, g67] <;> first | exact ⟨rfl, rfl, rfl, rfl⟩ | rfl) ?_
                    refine DrO.run (fz := []) 3 (by simp -implicitDefEqProofs [d36, hj, hx1, hlt, hx, hw, ha, hz, g50, g61, g67] <;> first | exact ⟨rfl, rfl, rfl, rfl⟩ | rfl) ?_
                    refine DrO.run (fz := []) 3 (by simp -implicitDefEqProofs [d36, hj, hx1, hlt, hx, hw, ha, hz, g50, g61, g67] <;> first | exact ⟨rfl, rfl, rfl, rfl⟩ | rfl) ?_
                    refine DrO.nil ⟨by kernel_rfl, ?_⟩
                    refine ⟨rfl, Gh.only 76 30 ?_ (by first | rfl | simp -implicitDefEqProofs [d36, hj, hx1, hlt, hx, hw, ha, hz, g50, g61, g67]) (by rfl)⟩
                    simp -implicitDefEqProofs [d36, hj, hx1, hlt, hx, hw, ha, hz, g50, g61, g67, g50', g61', g67']
                · try (exfalso; revert g67; simp; done)
                  all_goals
                    have g67' := g67; first | simp only [dT, dF] at g67' | try simp at g67'
                    refine DrO.run (fz := []) 3 (by simp -implicitDefEqProofs [d36, hj, hx1, hlt, hx, hw, ha, hz, g50, g61, g67] <;> first | exact ⟨rfl, rfl, rfl, rfl⟩ | rfl) ?_
                    refine DrO.run (fz := []) 3 (by simp -implicitDefEqProofs [d36, hj, hx1, hlt, hx, hw, ha, hz, g50, g61, g67] <;> first | exact ⟨rfl, rfl, rfl, rfl⟩ | rfl) ?_
                    refine DrO.run (fz := []) 3 (by simp -implicitDefEqProofs [d36, hj, hx1, hlt, hx, hw, ha, hz, g50, g61, g67] <;> first | exact ⟨rfl, rfl, rfl, rfl⟩ | rfl) ?_
                    refine DrO.nil ⟨by kernel_rfl, ?_⟩
                    refine ⟨rfl, Gh.only 76 30 ?_ (by first | rfl | simp -implicitDefEqProofs [d36, hj, hx1, hlt, hx, hw, ha, hz, g50, g61, g67]) (by rfl)⟩
                    simp -implicitDefEqProofs [d36, hj, hx1, hlt, hx, hw, ha, hz, g50, g61, g67, g50', g61', g67']
            · try (exfalso; revert g61; simp; done)
              all_goals
                have g61' := g61; first | simp only [dT, dF] at g61' | try simp at g61'
                refine DrO.run (fz := []) 3 (by simp -implicitDefEqProofs [d36, hj, hx1, hlt, hx, hw, ha, hz, g50, g61] <;> first | exact ⟨rfl, rfl, rfl, rfl⟩ | rfl) ?_
                refine DrO.run (fz := []) 3 (by simp -implicitDefEqProofs [d36, hj, hx1, hlt, hx, hw, ha, hz, g50, g61] <;> first | exact ⟨rfl, rfl, rfl, rfl⟩ | rfl) ?_
                refine DrO.run (fz := []) 3 (by simp -implicitDefEqProofs [d36, hj, hx1, hlt, hx, hw, ha, hz, g50, g61] <;> first | exact ⟨rfl, rfl, rfl, rfl⟩ | rfl) ?_
                refine DrO.run (fz := []) 3 (by simp -implicitDefEqProofs [d36, hj, hx1, hlt, hx, hw, ha, hz, g50, g61] <;> first | exact ⟨rfl, rfl, rfl, rfl⟩ | rfl) ?_
                refine DrO.run (fz := []) 3 (by simp -implicitDefEqProofs [d36, hj, hx1, hlt, hx, hw, ha, hz, g50, g61] <;> first | exact ⟨rfl, rfl, rfl, rfl⟩ | rfl) ?_
                refine DrO.nil ⟨by kernel_rfl, ?_⟩
                refine ⟨rfl, Gh.only 76 30 ?_ (by first | rfl | simp -implicitDefEqProofs [d36, hj, hx1, hlt, hx, hw, ha, hz, g50, g61]) (by rfl)⟩
                simp -implicitDefEqProofs [d36, hj, hx1, hlt, hx, hw, ha, hz, g50, g61, g50', g61']
        · try (exfalso; revert g50; simp; done)
          all_goals
            have g50' := g50; first | simp only [dT, dF] at g50' | try simp at g50'
            refine DrO.run (fz := []) 3 (by simp -implicitDefEqProofs [d36, hj, hx1, hlt, hx, hw, ha, hz, g50] <;> first | exact ⟨rfl, rfl, rfl, rfl⟩ | rfl) ?_
            refine DrO.run (fz := []) 2 (by simp -implicitDefEqProofs [d36, hj, hx1, hlt, hx, hw, ha, hz, g50] <;> first | exact ⟨rfl, rfl, rfl, rfl⟩ | rfl) ?_
            refine DrO.splitB 55 (by simp -implicitDefEqProofs [d36, hj, hx1, hlt, hx, hw, ha, hz, g50] <;> rfl) (by rfl) (fun g55 => ?_) (fun g55 => ?_)
            · try (exfalso; revert g55; simp; done)
              all_goals
                have g55' := g55; first | simp only [dT, dF] at g55' | try simp at g55'
                refine DrO.run (fz := []) 3 (by simp -implicitDefEqProofs [d36, hj, hx1, hlt, hx, hw, ha, hz, g50, g55] <;> first | exact ⟨rfl, rfl, rfl, rfl⟩ | rfl) ?_
                refine DrO.run (fz := []) 3 (by simp -implicitDefEqProofs [d36, hj, hx1, hlt, hx, hw, ha, hz, g50, g55] <;> first | exact ⟨rfl, rfl, rfl, rfl⟩ | rfl) ?_
                refine DrO.splitB 61 (by simp -implicitDefEqProofs [d36, hj, hx1, hlt, hx, hw, ha, hz, g50, g55] <;> rfl) (by rfl) (fun g61 => ?_) (fun g61 => ?_)
                · try (exfalso; revert g61; simp; done)
                  all_goals
                    have g61' := g61; first | simp only [dT, dF] at g61' | try simp at g61'
                    refine DrO.run (fz := []) 3 (by simp -implicitDefEqProofs [d36, hj, hx1, hlt, hx, hw, ha, hz, g50, g55, g61] <;> first | exact ⟨rfl, rfl, rfl, rfl⟩ | rfl) ?_
                    refine DrO.run (fz := []) 3 (by simp -implicitDefEqProofs [d36, hj, hx1, hlt, hx, hw, ha, hz, g50, g55, g61] <;> first | exact ⟨rfl, rfl, rfl, rfl⟩ | rfl) ?_
                    refine DrO.splitB 67 (by simp -implicitDefEqProofs [d36, hj, hx1, hlt, hx, hw, ha, hz, g50, g55, g61] <;> rfl) (by rfl) (fun g67 => ?_) (fun g67 => ?_)
                    · try (exfalso; revert g67; simp; done)
                      all_goals
                        have g67' := g67; first | simp only [dT, dF] at g67' | try simp at g67'
                        refine DrO.run (fz := []) 3 (by simp -implicitDefEqProofs [d36, hj, hx1, hlt, hx, hw, ha, hz, g50, g55, g61, g67] <;> first | exact ⟨rfl, rfl, rfl, rfl⟩ | rfl) ?_
                        refine DrO.run (fz := []) 3 (by simp -implicitDefEqProofs [d36, hj, hx1, hlt, hx, hw, ha, hz, g50, g55, g61, g67] <;> first | exact ⟨rfl, rfl, rfl, rfl⟩ | rfl) ?_
                        refine DrO.run (fz := []) 3 (by simp -implicitDefEqProofs [d36, hj, hx1, hlt, hx, hw, ha, hz, g50, g55, g61, g67] <;> first | exact ⟨rfl, rfl, rfl, rfl⟩ | rfl) ?_
                        refine DrO.nil ⟨by kernel_rfl, ?_⟩
                        refine ⟨rfl, Gh.only 76 30 ?_ (by first | rfl | simp -implicitDefEqProofs [d36, hj, hx1, hlt, hx, hw, ha, hz, g50, g55, g61, g67]) (by rfl)⟩
                        simp -implicitDefEqProofs [d36, hj, hx1, hlt, hx, hw, ha, hz, g50, g55, g61, g67, g50', g55', g61', g67']
                    · try (exfalso; revert g67; simp; done)
                      all_goals
                        have g67' := g67; first | simp only [dT, dF] at g67' | try simp at g67'
                        refine DrO.run (fz := []) 3 (by simp -implicitDefEqProofs [d36, hj, hx1, hlt, hx, hw, ha, hz, g50, g55, g61, g67] <;> first | exact ⟨rfl, rfl, rfl, rfl⟩ | rfl) ?_
                        refine DrO.run (fz := []) 3 (by simp -implicitDefEqProofs [d36, hj, hx1, hlt, hx, hw, ha, hz, g50, g55, g61, g67] <;> first | exact ⟨rfl, rfl, rfl, rfl⟩ | rfl) ?_
                        refine DrO.run (fz := []) 3 (by simp -implicitDefEqProofs [d36, hj, hx1, hlt, hx, hw, ha, hz, g50, g55, g61, g67] <;> first | exact ⟨rfl, rfl, rfl, rfl⟩ | rfl) ?_
                        refine DrO.nil ⟨by kernel_rfl, ?_⟩
                        refine ⟨rfl, Gh.only 76 30 ?_ (by first | rfl | simp -implicitDefEqProofs [d36, hj, hx1, hlt, hx, hw, ha, hz, g50, g55, g61, g67]) (by rfl)⟩
                        simp -implicitDefEqProofs [d36, hj, hx1, hlt, hx, hw, ha, hz, g50, g55, g61, g67, g50', g55', g61', g67']
                · try (exfalso; revert g61; simp; done)
                  all_goals
                    have g61' := g61; first | simp only [dT, dF] at g61' | try simp at g61'
                    refine DrO.run (fz := []) 3 (by simp -implicitDefEqProofs [d36, hj, hx1, hlt, hx, hw, ha, hz, g50, g55, g61] <;> first | exact ⟨rfl, rfl, rfl, rfl⟩ | rfl) ?_
                    refine DrO.run (fz := []) 3 (by simp -implicitDefEqProofs [d36, hj, hx1, hlt, hx, hw, ha, hz, g50, g55, g61] <;> first | exact ⟨rfl, rfl, rfl, rfl⟩ | rfl) ?_
                    refine DrO.run (fz := []) 3 (by simp -implicitDefEqProofs [d36, hj, hx1, hlt, hx, hw, ha, hz, g50, g55, g61] <;> first | exact ⟨rfl, rfl, rfl, rfl⟩ | rfl) ?_
                    refine DrO.run (fz := []) 3 (by simp -implicitDefEqProofs [d36, hj, hx1, hlt, hx, hw, ha, hz, g50, g55, g61] <;> first | exact ⟨rfl, rfl, rfl, rfl⟩ | rfl) ?_
                    refine DrO.run (fz := []) 3 (by simp -implicitDefEqProofs [d36, hj, hx1, hlt, hx, hw, ha, hz, g50, g55, g61] <;> first | exact ⟨rfl, rfl, rfl, rfl⟩ | rfl) ?_
                    refine DrO.nil ⟨by kernel_rfl, ?_⟩
                    refine ⟨rfl, Gh.only 76 30 ?_ (by first | rfl | simp -implicitDefEqProofs [d36, hj, hx1, hlt, hx, hw, ha, hz, g50, g55, g61]) (by rfl)⟩
                    simp -implicitDefEqProofs [d36, hj, hx1, hlt, hx, hw, ha, hz, g50, g55, g61, g50', g55', g61']
            · try (exfalso; revert g55; simp; done)
              all_goals
                have g55' := g55; first | simp only [dT, dF] at g55' | try simp at g55'
                refine DrO.run (fz := []) 3 (by simp -implicitDefEqProofs [d36, hj, hx1, hlt, hx, hw, ha, hz, g50, g55] <;> first | exact ⟨rfl, rfl, rfl, rfl⟩ | rfl) ?_
                refine DrO.run (fz := []) 3 (by simp -implicitDefEqProofs [d36, hj, hx1, hlt, hx, hw, ha, hz, g50, g55] <;> first | exact ⟨rfl, rfl, rfl, rfl⟩ | rfl) ?_
                refine DrO.run (fz := []) 3 (by simp -implicitDefEqProofs [d36, hj, hx1, hlt, hx, hw, ha, hz, g50, g55] <;> first | exact ⟨rfl, rfl, rfl, rfl⟩ | rfl) ?_
                refine DrO.run (fz := []) 3 (by simp -implicitDefEqProofs [d36, hj, hx1, hlt, hx, hw, ha, hz, g50, g55] <;> first | exact ⟨rfl, rfl, rfl, rfl⟩ | rfl) ?_
                refine DrO.run (fz := []) 3 (by simp -implicitDefEqProofs [d36, hj, hx1, hlt, hx, hw, ha, hz, g50, g55] <;> first | exact ⟨rfl, rfl, rfl, rfl⟩ | rfl) ?_
                refine DrO.run (fz := []) 3 (by simp -implicitDefEqProofs [d36, hj, hx1, hlt, hx, hw, ha, hz, g50, g55] <;> first | exact ⟨rfl, rfl, rfl, rfl⟩ | rfl) ?_
                refine DrO.run (fz := []) 3 (by simp -implicitDefEqProofs [d36, hj, hx1, hlt, hx, hw, ha, hz, g50, g55] <;> first | exact ⟨rfl, rfl, rfl, rfl⟩ | rfl) ?_
                refine DrO.nil ⟨by kernel_rfl, ?_⟩
                refine ⟨rfl, Gh.only 76 30 ?_ (by first | rfl | simp -implicitDefEqProofs [d36, hj, hx1, hlt, hx, hw, ha, hz, g50, g55]) (by rfl)⟩
                simp -implicitDefEqProofs [d36, hj, hx1, hlt, hx, hw, ha, hz, g50, g55, g50', g55']
      refine WpC.condD ((x.kind = 1 ∨ x.kind = 2) ∧ x.id = id ∧ x.frm ≤ when ∧ z.frm ≤ x.frm) (by simp -implicitDefEqProofs [d36, hj, hx1, hlt, hx, hw, ha, hz]) (fun d76 => ?_) (fun d76 => ?_)
      · refine WpC.ops tabOk (r := []) (by simp -implicitDefEqProofs [d36, hj, hx1, hlt, hx, hw, ha, hz, d76] <;> rfl) rfl ?_
        refine WpC.ops tabOk (r := []) (by simp -implicitDefEqProofs [d36, hj, hx1, hlt, hx, hw, ha, hz, d76] <;> rfl) rfl ?_
        exact ⟨hlt, k, ⟨hlt, by rw [hst, hFk, if_pos d76]⟩, Gh.cut' [7, 8, 0, 1, 2] 0 (by simp -implicitDefEqProofs [d36, hj, hx1, hlt, hx, hw, ha, hz, d76]) (by simp) rfl (by simp) (by simp) (by simp)⟩
      · refine WpC.skip ?_
        refine WpC.ops tabOk (r := []) (by simp -implicitDefEqProofs [d36, hj, hx1, hlt, hx, hw, ha, hz, d76] <;> rfl) rfl ?_
        exact ⟨hlt, a, ⟨ha, by rw [hst, hFk, if_neg d76]⟩, Gh.cut' [7, 8, 0, 1, 2] 0 (by simp -implicitDefEqProofs [d36, hj, hx1, hlt, hx, hw, ha, hz, d76]) (by simp) rfl (by simp) (by simp) (by simp)⟩
    · refine WpC.exit ?_
      have hkn : k = l.length := by omega
      subst hkn
      refine WpC.seq (WpC.ops tabOk (r := []) (by simp -implicitDefEqProofs [d36, hj, hx1] <;> rfl) rfl ?_)
      refine WpC.ret ?_
      try simp only [blockQ, seqQ]
      refine retD_i (by simp -implicitDefEqProofs [d36, hj, hx1] <;> rfl) (by simp -implicitDefEqProofs [d36, hj, hx1] <;> rfl) ?_
      rw [hi.2]; simp
end Go.Proofs.Ytndofikacmhejaa.Pay
