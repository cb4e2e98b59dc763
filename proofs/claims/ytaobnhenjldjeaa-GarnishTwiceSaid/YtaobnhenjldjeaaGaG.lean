/- That garnish's laws are awake; the arguments of its laws. No statement of the seed is proved here. -/
import Derived.Test.YtaobnhenjldjeaaGaF
import Derived.Test.YtaobnhenjldjeaaSpY
namespace Go.Proofs.Ytaobnhenjldjeaa.Pay
open Go Go.RowKit
set_option linter.unusedVariables false
set_option linter.unusedSimpArgs false
set_option linter.unusedSectionVars false

def outI (net prot : Int) (l : List Ord) : List Int := if chkE net prot l = 0 then (List.range l.length).map (outN (at0 (net - prot)) (priF l) (wantF l) l.length) else []
theorem srvL_map (net prot : Int) (l : List Ord) : srvL net prot l = (outI net prot l).map dI := by
  unfold srvL outI
  split
  · exact rowF_map _ _
  · rfl
theorem serveL_ok (net prot : Int) (l : List Ord) (hl : l.length ≤ 1000000) : Gives Try.prog 11 [.d (dI net), .d (dI prot), .d (encOs l)] (.tup [.d (.list 1 ((outI net prot l).map dI)), .d (dI (chkE net prot l))]) := by
  rw [← srvL_map]; exact serve_ok net prot l hl
theorem outI_facts {net prot : Int} {l : List Ord} (h : chkE net prot l = 0) : (outI net prot l).length = l.length ∧ ∀ i (hi : i < (outI net prot l).length), (outI net prot l)[i] = outN (at0 (net - prot)) (priF l) (wantF l) l.length i := by
  unfold outI
  rw [if_pos h]
  exact ⟨by simp, fun i hi => by simp⟩
theorem outI_none {net prot : Int} {l : List Ord} (h : chkE net prot l ≠ 0) : outI net prot l = [] := if_neg h

def ol3 : List Ord := [⟨0, 1, 30, 99⟩, ⟨0, 2, 40, 99⟩, ⟨0, 2, 20, 99⟩]
theorem aw15a : outI 100 40 ol3 = [30, 20, 10] ∧ chkE 100 40 ol3 = 0 := by decide +kernel
theorem aw15b : paidB [⟨0, 0, 0, 5⟩] [2] = true := by decide +kernel
theorem aw15c : payL [⟨0, 0, 0, 5⟩] [2] 1 = [⟨0, 0, 0, 3⟩] := by kernel_rfl
set_option maxHeartbeats 4000000 in
theorem awake15_ok : Gives Try.prog 10 [] (.d (.bool true)) := by
  have h1 := serveL_ok 100 40 ol3 (by decide)
  rw [aw15a.1, aw15a.2] at h1
  have h2 := paid_ok [⟨0, 0, 0, 5⟩] [2] (by decide) (by decide) (by intro o ho; simp at ho; subst ho; exact ⟨by decide, by decide⟩)
  rw [aw15b, if_pos rfl] at h2
  simp only [List.length_singleton] at h2
  rw [aw15c] at h2
  have h3 := same_ok [30, 20, 10] [30, 20, 10] (by simp) (by simp)
  simp only [decide_true] at h3
  unfold ol3 at h1
  simp only [encOs, Ord.enc, Ord.cs, List.map_cons, List.map_nil] at h1 h2 h3
  refine Gives.enter tabOk Try.func10 rfl (by show 0 ≤ 42; decide) ?_
  simp only [Try.f10]
  refine WpC.seq (WpC.ops tabOk (r := []) (by simp -implicitDefEqProofs <;> rfl) rfl ?_)
  refine WpC.seq ?_
  refine WpC.region ?_
  refine WpO.run tabOk 4 (by simp -implicitDefEqProofs <;> first | exact ⟨rfl, rfl⟩ | rfl) ?_
  refine WpO.gh (Gh.frz [0]) ?_
  refine WpO.data (by simp) rfl (by simp -implicitDefEqProofs <;> rfl) (by simp -implicitDefEqProofs <;> rfl) (by simp -implicitDefEqProofs <;> rfl) call_11 (by simp) ( h1) (by rfl) (by simp -implicitDefEqProofs <;> rfl) ?_
  refine WpO.run tabOk 5 (by simp -implicitDefEqProofs <;> first | exact ⟨rfl, rfl⟩ | rfl) ?_
  refine WpO.nil ?_
  refine WpC.seq ?_
  refine WpC.region ?_
  refine WpO.run tabOk 3 (by simp -implicitDefEqProofs <;> first | exact ⟨rfl, rfl⟩ | rfl) ?_
  refine WpO.gh (Gh.frz [1, 2]) ?_
  refine WpO.data (by simp) rfl (by simp -implicitDefEqProofs <;> rfl) (by simp -implicitDefEqProofs <;> rfl) (by simp -implicitDefEqProofs <;> rfl) call_15 (by simp) ( h2) (by rfl) (by simp -implicitDefEqProofs <;> rfl) ?_
  refine WpO.run tabOk 5 (by simp -implicitDefEqProofs <;> first | exact ⟨rfl, rfl⟩ | rfl) ?_
  refine WpO.nil ?_
  refine WpC.seq ?_
  refine WpC.region ?_
  refine WpO.run tabOk 2 (by simp -implicitDefEqProofs <;> first | exact ⟨rfl, rfl⟩ | rfl) ?_
  refine WpO.lend (by simp) rfl (by simp -implicitDefEqProofs <;> rfl) (by simp -implicitDefEqProofs <;> rfl) (by simp -implicitDefEqProofs <;> rfl) call_13 (h3) (by rfl) (by simp -implicitDefEqProofs <;> rfl) ?_
  refine WpO.run tabOk 1 (by simp -implicitDefEqProofs <;> first | exact ⟨rfl, rfl⟩ | rfl) ?_
  refine WpO.splitB 23 (by simp -implicitDefEqProofs <;> rfl) (by rfl) (fun g23 => ?_) (fun g23 => ?_)
  · try (exfalso; revert g23; simp; done)
    all_goals
      have g23' := g23; first | simp only [dT, dF] at g23' | try simp at g23'
      refine WpO.run tabOk 4 (by simp -implicitDefEqProofs [g23] <;> first | exact ⟨rfl, rfl⟩ | rfl) ?_
      refine WpO.splitB 27 (by simp -implicitDefEqProofs [g23] <;> rfl) (by rfl) (fun g27 => ?_) (fun g27 => ?_)
      · try (exfalso; revert g27; simp; done)
        all_goals
          have g27' := g27; first | simp only [dT, dF] at g27' | try simp at g27'
          refine WpO.run tabOk 3 (by simp -implicitDefEqProofs [g23, g27] <;> first | exact ⟨rfl, rfl⟩ | rfl) ?_
          refine WpO.splitB 30 (by simp -implicitDefEqProofs [g23, g27] <;> rfl) (by rfl) (fun g30 => ?_) (fun g30 => ?_)
          · try (exfalso; revert g30; simp; done)
            all_goals
              have g30' := g30; first | simp only [dT, dF] at g30' | try simp at g30'
              refine WpO.run tabOk 5 (by simp -implicitDefEqProofs [g23, g27, g30] <;> first | exact ⟨rfl, rfl⟩ | rfl) ?_
              refine WpO.splitB 35 (by simp -implicitDefEqProofs [g23, g27, g30] <;> rfl) (by rfl) (fun g35 => ?_) (fun g35 => ?_)
              · try (exfalso; revert g35; simp; done)
                all_goals
                  have g35' := g35; first | simp only [dT, dF] at g35' | try simp at g35'
                  refine WpO.run tabOk 7 (by simp -implicitDefEqProofs [g23, g27, g30, g35] <;> first | exact ⟨rfl, rfl⟩ | rfl) ?_
                  refine WpO.nil ?_
                  refine WpC.ret ?_
                  try simp only [blockQ, seqQ]
                  refine retD_i (by simp -implicitDefEqProofs [g23, g27, g30, g35] <;> rfl) (by simp -implicitDefEqProofs [g23, g27, g30, g35] <;> rfl) ?_
                  simp -implicitDefEqProofs [g23, g27, g30, g35]
              · try (exfalso; revert g35; simp; done)
                all_goals
                  have g35' := g35; first | simp only [dT, dF] at g35' | try simp at g35'
                  refine WpO.run tabOk 7 (by simp -implicitDefEqProofs [g23, g27, g30, g35] <;> first | exact ⟨rfl, rfl⟩ | rfl) ?_
                  refine WpO.nil ?_
                  refine WpC.ret ?_
                  try simp only [blockQ, seqQ]
                  refine retD_i (by simp -implicitDefEqProofs [g23, g27, g30, g35] <;> rfl) (by simp -implicitDefEqProofs [g23, g27, g30, g35] <;> rfl) ?_
                  simp -implicitDefEqProofs [g23, g27, g30, g35]
          · try (exfalso; revert g30; simp; done)
            all_goals
              have g30' := g30; first | simp only [dT, dF] at g30' | try simp at g30'
              refine WpO.run tabOk 12 (by simp -implicitDefEqProofs [g23, g27, g30] <;> first | exact ⟨rfl, rfl⟩ | rfl) ?_
              refine WpO.nil ?_
              refine WpC.ret ?_
              try simp only [blockQ, seqQ]
              refine retD_i (by simp -implicitDefEqProofs [g23, g27, g30] <;> rfl) (by simp -implicitDefEqProofs [g23, g27, g30] <;> rfl) ?_
              simp -implicitDefEqProofs [g23, g27, g30]
      · try (exfalso; revert g27; simp; done)
        all_goals
          have g27' := g27; first | simp only [dT, dF] at g27' | try simp at g27'
          refine WpO.run tabOk 15 (by simp -implicitDefEqProofs [g23, g27] <;> first | exact ⟨rfl, rfl⟩ | rfl) ?_
          refine WpO.nil ?_
          refine WpC.ret ?_
          try simp only [blockQ, seqQ]
          refine retD_i (by simp -implicitDefEqProofs [g23, g27] <;> rfl) (by simp -implicitDefEqProofs [g23, g27] <;> rfl) ?_
          simp -implicitDefEqProofs [g23, g27]
  · try (exfalso; revert g23; simp; done)
    all_goals
      have g23' := g23; first | simp only [dT, dF] at g23' | try simp at g23'
      refine WpO.run tabOk 19 (by simp -implicitDefEqProofs [g23] <;> first | exact ⟨rfl, rfl⟩ | rfl) ?_
      refine WpO.nil ?_
      refine WpC.ret ?_
      try simp only [blockQ, seqQ]
      refine retD_i (by simp -implicitDefEqProofs [g23] <;> rfl) (by simp -implicitDefEqProofs [g23] <;> rfl) ?_
      simp -implicitDefEqProofs [g23]

def Ord.ok (o : Ord) : Prop := in64 o.cred ∧ in64 o.pri ∧ in64 o.claim ∧ in64 o.bal
theorem has_ord {g : Nat} {ds : List D} (h : HasT tab (g + 2) 35 ds) : ∃ o : Ord, o.ok ∧ ds = o.cs := by
  unfold HasT at h
  simp only [tab_35, Fs] at h
  obtain ⟨_, _, rfl, h1, _, _, rfl, h2, _, _, rfl, h3, _, _, rfl, h4, rfl⟩ := h
  obtain ⟨x1, rfl, k1⟩ := has_num h1 tab_3
  obtain ⟨x2, rfl, k2⟩ := has_num h2 tab_3
  obtain ⟨x3, rfl, k3⟩ := has_num h3 tab_3
  obtain ⟨x4, rfl, k4⟩ := has_num h4 tab_3
  exact ⟨⟨x1, x2, x3, x4⟩, ⟨k1, k2, k3, k4⟩, rfl⟩
theorem has_ords {g : Nat} {ds : List D} (h : HasT tab (g + 3) 22 ds) : ∃ l : List Ord, (∀ o ∈ l, o.ok) ∧ l.length ≤ maxLen ∧ ds = [encOs l] := by
  unfold HasT at h
  simp only [tab_22, tab_35] at h
  obtain ⟨xs, rfl, hl, hx⟩ := h
  have key : ∀ {xs : List D}, (∀ x ∈ xs, ∃ o : Ord, o.ok ∧ x = o.enc) → ∃ l : List Ord, xs = l.map Ord.enc ∧ ∀ o ∈ l, o.ok := by
    intro xs
    induction xs with
    | nil => intro _; exact ⟨[], rfl, by simp⟩
    | cons x xs ih =>
      intro h
      obtain ⟨o, h1, rfl⟩ := h x (by simp)
      obtain ⟨l, rfl, h2⟩ := ih fun y hy => h y (by simp [hy])
      exact ⟨o :: l, rfl, by simpa using ⟨h1, h2⟩⟩
  obtain ⟨l, rfl, h2⟩ := key fun x hx' => by
    obtain ⟨ys, h1, rfl⟩ := hx x hx'
    obtain ⟨o, h3, rfl⟩ := has_ord h1
    exact ⟨o, h3, rfl⟩
  exact ⟨l, h2, by simpa using hl, rfl⟩
def ordB (p q : Ord) : Bool := decide (p.cred = q.cred) && decide (p.pri = q.pri) && decide (p.claim = q.claim) && decide (p.bal = q.bal)
theorem eqOrd (p q : Ord) : EqT Try.prog 35 p.cs q.cs (ordB p q) := by
  refine ⟨by kernel_rfl, fun w I vs us h1 h2 => ?_⟩
  simp only [DRelL, DRel, dI, Ord.cs] at h1 h2
  obtain ⟨_, _, rfl, rfl, _, _, rfl, rfl, _, _, rfl, rfl, _, _, rfl, rfl, rfl⟩ := h1
  obtain ⟨_, _, rfl, rfl, _, _, rfl, rfl, _, _, rfl, rfl, _, _, rfl, rfl, rfl⟩ := h2
  have hu := Try.underlying35
  have hi := Try.underlying3
  have ha : ∀ w, (isAgg 3).run Try.prog w = .ok false w := fun w => by simp [isAgg, run_underlying hi]
  unfold Op.equal
  rw [show Op.maxDepth = 9999 + 1 from rfl, run_equalIn_struct w _ _ _ _ (by simp only [Program.fieldsOf, hu]) (by kernel_rfl)]
  have he : ∀ (w : World) (a b : Int), (Op.equalIn 9999 3 (.int .i64 a) (.int .i64 b)).run Try.prog w = .ok (decide (a = b)) w := fun w a b => by
    rw [show (9999 : Nat) = 9998 + 1 from rfl]
    unfold Op.equalIn
    simp [run_underlying hi]
  by_cases h1 : p.cred = q.cred <;> by_cases h2 : p.pri = q.pri <;> by_cases h3 : p.claim = q.claim <;> by_cases h4 : p.bal = q.bal <;> simp [ordB, Program.fieldsOf, hu, Op.eqFields, part, ha, he, h1, h2, h3, h4]
end Go.Proofs.Ytaobnhenjldjeaa.Pay
