/- What slices.Clone gives: a row of one's own. No statement of the seed is proved here. -/
import Derived.Test.YtndofikacmhejaaMaB
namespace Go.Proofs.Ytndofikacmhejaa.Pay
open Go Go.Proofs
set_option linter.unusedVariables false
set_option maxHeartbeats 4000000
set_option linter.unusedSimpArgs false

/-- A function that hands back a row of its own. -/
def GivesRow (P : Program) (f : FuncId) (args : List FV) (e k : Nat) (xs : List D) : Prop := WpF P f args [] fun r S => r = .sl 0 xs.length ∧ S = [.arr e k xs]

theorem cloneP_ok (xs : List D) (hl : xs.length ≤ 1000000000) : GivesRow Try.prog 38 [.d (.list 5 xs)] 68 5 xs := by
  refine WpF.enter tabOk Try.func38 rfl (by show 1 ≤ 8; decide) ?_
  simp only [Try.f38]
  refine WpC.seq (WpC.ops tabOk (r := []) (by simp -implicitDefEqProofs <;> rfl) rfl ?_)
  refine WpC.seq ?_
  refine WpC.seq ?_
  refine WpC.region ?_
  refine WpO.run tabOk 1 (by simp <;> first | exact ⟨rfl, rfl⟩ | rfl) ?_
  refine WpO.nilEq (k := 5) (xs := xs) tabOk (by simp) rfl (by simp; rfl) rfl (by simp) fun b hb => ⟨_, by simp; rfl, WpO.nil ?_⟩
  refine WpC.condR (by simp -implicitDefEqProofs <;> rfl) (by rfl) (fun c4 => ?_) (fun c4 => ?_)
  · have c4' := c4; first | simp only [dT, dF] at c4' | try simp at c4'
    refine WpC.seq (WpC.ops tabOk (r := []) (by simp -implicitDefEqProofs [c4] <;> rfl) rfl ?_)
    have := hb c4
    subst this
    refine WpC.gh (Gh.nilArr 68 5 (t := 2) (by simp) (by simp)) ?_
    refine WpC.gh (Gh.pick [2] [0] (by simp; rfl) (env' := [(2, .sl 0 0)]) (by simp) (by simp) (by simp) (by simp; rfl) (S' := [.arr 68 5 []]) (by simp) (by simp)) (WpC.ret ?_)
    simp
  · have c4' := c4; first | simp only [dT, dF] at c4' | try simp at c4'
    have hsm : xs.length ≤ 8589934592 := by omega
    refine WpC.skip ?_
    refine WpC.seq (WpC.ops tabOk (r := []) (by simp -implicitDefEqProofs [c4, hsm] <;> rfl) rfl ?_)
    refine WpC.gh (Gh.pick [2] [1] (by simp; rfl) (env' := [(2, .sl 0 xs.length)]) (by simp) (by simp) (by simp) (by simp; rfl) (S' := [.arr 68 5 xs]) (by simp) (by simp)) (WpC.ret ?_)
    simp
theorem cloneR_ok (xs : List D) (hl : xs.length ≤ 1000000000) : GivesRow Try.prog 41 [.d (.list 7 xs)] 63 7 xs := by
  refine WpF.enter tabOk Try.func41 rfl (by show 1 ≤ 8; decide) ?_
  simp only [Try.f41]
  refine WpC.seq (WpC.ops tabOk (r := []) (by simp -implicitDefEqProofs <;> rfl) rfl ?_)
  refine WpC.seq ?_
  refine WpC.seq ?_
  refine WpC.region ?_
  refine WpO.run tabOk 1 (by simp <;> first | exact ⟨rfl, rfl⟩ | rfl) ?_
  refine WpO.nilEq (k := 7) (xs := xs) tabOk (by simp) rfl (by simp; rfl) rfl (by simp) fun b hb => ⟨_, by simp; rfl, WpO.nil ?_⟩
  refine WpC.condR (by simp -implicitDefEqProofs <;> rfl) (by rfl) (fun c4 => ?_) (fun c4 => ?_)
  · have c4' := c4; first | simp only [dT, dF] at c4' | try simp at c4'
    refine WpC.seq (WpC.ops tabOk (r := []) (by simp -implicitDefEqProofs [c4] <;> rfl) rfl ?_)
    have := hb c4
    subst this
    refine WpC.gh (Gh.nilArr 63 7 (t := 2) (by simp) (by simp)) ?_
    refine WpC.gh (Gh.pick [2] [0] (by simp; rfl) (env' := [(2, .sl 0 0)]) (by simp) (by simp) (by simp) (by simp; rfl) (S' := [.arr 63 7 []]) (by simp) (by simp)) (WpC.ret ?_)
    simp
  · have c4' := c4; first | simp only [dT, dF] at c4' | try simp at c4'
    have hsm : xs.length ≤ 8589934592 := by omega
    refine WpC.skip ?_
    refine WpC.seq (WpC.ops tabOk (r := []) (by simp -implicitDefEqProofs [c4, hsm] <;> rfl) rfl ?_)
    refine WpC.gh (Gh.pick [2] [1] (by simp; rfl) (env' := [(2, .sl 0 xs.length)]) (by simp) (by simp) (by simp) (by simp; rfl) (S' := [.arr 63 7 xs]) (by simp) (by simp)) (WpC.ret ?_)
    simp
theorem cloneO_ok (xs : List D) (hl : xs.length ≤ 1000000000) : GivesRow Try.prog 47 [.d (.list 4 xs)] 78 4 xs := by
  refine WpF.enter tabOk Try.func47 rfl (by show 1 ≤ 8; decide) ?_
  simp only [Try.f47]
  refine WpC.seq (WpC.ops tabOk (r := []) (by simp -implicitDefEqProofs <;> rfl) rfl ?_)
  refine WpC.seq ?_
  refine WpC.seq ?_
  refine WpC.region ?_
  refine WpO.run tabOk 1 (by simp <;> first | exact ⟨rfl, rfl⟩ | rfl) ?_
  refine WpO.nilEq (k := 4) (xs := xs) tabOk (by simp) rfl (by simp; rfl) rfl (by simp) fun b hb => ⟨_, by simp; rfl, WpO.nil ?_⟩
  refine WpC.condR (by simp -implicitDefEqProofs <;> rfl) (by rfl) (fun c4 => ?_) (fun c4 => ?_)
  · have c4' := c4; first | simp only [dT, dF] at c4' | try simp at c4'
    refine WpC.seq (WpC.ops tabOk (r := []) (by simp -implicitDefEqProofs [c4] <;> rfl) rfl ?_)
    have := hb c4
    subst this
    refine WpC.gh (Gh.nilArr 78 4 (t := 2) (by simp) (by simp)) ?_
    refine WpC.gh (Gh.pick [2] [0] (by simp; rfl) (env' := [(2, .sl 0 0)]) (by simp) (by simp) (by simp) (by simp; rfl) (S' := [.arr 78 4 []]) (by simp) (by simp)) (WpC.ret ?_)
    simp
  · have c4' := c4; first | simp only [dT, dF] at c4' | try simp at c4'
    have hsm : xs.length ≤ 8589934592 := by omega
    refine WpC.skip ?_
    refine WpC.seq (WpC.ops tabOk (r := []) (by simp -implicitDefEqProofs [c4, hsm] <;> rfl) rfl ?_)
    refine WpC.gh (Gh.pick [2] [1] (by simp; rfl) (env' := [(2, .sl 0 xs.length)]) (by simp) (by simp) (by simp) (by simp; rfl) (S' := [.arr 78 4 xs]) (by simp) (by simp)) (WpC.ret ?_)
    simp
end Go.Proofs.Ytndofikacmhejaa.Pay
