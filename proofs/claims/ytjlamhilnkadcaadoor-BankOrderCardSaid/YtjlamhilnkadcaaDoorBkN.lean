/- Law BankReads. No statement of the seed is proved here but that one's walk. -/
import Derived.Test.YtjlamhilnkadcaaDoorBkM
namespace Go.Proofs.YtjlamhilnkadcaaDoor.Pay
open Go Go.RowKit
set_option linter.unusedVariables false
set_option linter.unusedSimpArgs false

theorem read_some {s : List UInt8} {per : Int} {l : List Pm} (h : readR s = some (per, l)) : rightB per l = true ∧ textL per l = s := by
  rw [readR, Option.bind_eq_some_iff] at h
  obtain ⟨f, _, h⟩ := h
  split at h
  · rename_i h2
    cases h
    rw [Bool.and_eq_true] at h2
    exact ⟨h2.1, eq_of_beq h2.2⟩
  · cases h
theorem right_len {per : Int} {l : List Pm} (h : rightB per l = true) : l.length ≤ 4999 := by
  simp only [rightB, Bool.and_eq_true, decide_eq_true_eq] at h
  exact h.2
theorem reads_long (s : List UInt8) (h : 2000 < s.length) : Gives Tryd.prog 4 [.d (.str s)] (.d (.bool true)) := by
  have h2 : (2000 : Int) < s.length := by omega
  refine Gives.enter tabOk Tryd.func4 rfl (by show 1 ≤ 45; decide) ?_
  simp only [Tryd.f4]
  refine qR (by simp -implicitDefEqProofs [h2] <;> rfl) ?_
  refine WpC.seq ?_
  refine qR (by simp -implicitDefEqProofs [h2] <;> rfl) ?_
  refine WpC.condT (by simp -implicitDefEqProofs [h2] <;> rfl) ?_
  refine WpC.seq ?_
  refine WpC.region ?_
  refine WpO.data (by simp) rfl (by simp -implicitDefEqProofs [h2] <;> rfl) (by simp -implicitDefEqProofs [h2] <;> rfl) (by simp -implicitDefEqProofs [h2] <;> rfl) call_8 (by simp) (awake_ok) (by rfl) (by simp -implicitDefEqProofs [h2] <;> rfl) ?_
  refine WpO.run tabOk 1 (by simp -implicitDefEqProofs [h2] <;> first | exact ⟨rfl, rfl⟩ | rfl) ?_
  refine WpO.nil ?_
  refine WpC.ret ?_
  try simp only [blockQ, seqQ]
  refine retD_i (by simp -implicitDefEqProofs [h2] <;> rfl) (by simp -implicitDefEqProofs [h2] <;> rfl) ?_
  simp -implicitDefEqProofs [h2]
theorem reads_none (s : List UInt8) (h : s.length ≤ 2000) (hn : readR s = none) : Gives Tryd.prog 4 [.d (.str s)] (.d (.bool true)) := by
  have h2 : ¬ (2000 : Int) < s.length := by omega
  have hr := readA_ok s (by omega)
  rw [hn] at hr
  simp only [encR] at hr
  refine Gives.enter tabOk Tryd.func4 rfl (by show 1 ≤ 45; decide) ?_
  simp only [Tryd.f4]
  refine qR (by simp -implicitDefEqProofs [h2] <;> rfl) ?_
  refine WpC.seq ?_
  refine qR (by simp -implicitDefEqProofs [h2] <;> rfl) ?_
  refine WpC.condF (by simp -implicitDefEqProofs [h2] <;> rfl) ?_
  refine WpC.skip ?_
  refine WpC.seq ?_
  refine WpC.region ?_
  refine WpO.run tabOk 1 (by simp -implicitDefEqProofs [h2] <;> first | exact ⟨rfl, rfl⟩ | rfl) ?_
  refine WpO.data (by simp) rfl (by simp -implicitDefEqProofs [h2] <;> rfl) (by simp -implicitDefEqProofs [h2] <;> rfl) (by simp -implicitDefEqProofs [h2] <;> rfl) call_13 (by simp) (hr) (by rfl) (by simp -implicitDefEqProofs [h2] <;> rfl) ?_
  refine WpO.run tabOk 6 (by simp -implicitDefEqProofs [h2] <;> first | exact ⟨rfl, rfl⟩ | rfl) ?_
  refine WpO.nil ?_
  refine WpC.seq ?_
  refine qR (by simp -implicitDefEqProofs [h2] <;> rfl) ?_
  refine WpC.condT (by simp -implicitDefEqProofs [h2] <;> rfl) ?_
  refine WpC.seq ?_
  refine WpC.region ?_
  refine WpO.run tabOk 3 (by simp -implicitDefEqProofs [h2] <;> first | exact ⟨rfl, rfl⟩ | rfl) ?_
  refine WpO.splitB 18 (by simp -implicitDefEqProofs [h2] <;> rfl) (by rfl) (fun g18 => ?_) (fun g18 => ?_)
  · try (exfalso; revert g18; simp; done)
    all_goals
      have g18' := g18; first | simp only [dT, dF] at g18' | try simp at g18'
      refine WpO.run tabOk 5 (by simp -implicitDefEqProofs [h2, g18] <;> first | exact ⟨rfl, rfl⟩ | rfl) ?_
      refine WpO.splitB 23 (by simp -implicitDefEqProofs [h2, g18] <;> rfl) (by rfl) (fun g23 => ?_) (fun g23 => ?_)
      · try (exfalso; revert g23; simp; done)
        all_goals
          have g23' := g23; first | simp only [dT, dF] at g23' | try simp at g23'
          refine WpO.run tabOk 6 (by simp -implicitDefEqProofs [h2, g18, g23] <;> first | exact ⟨rfl, rfl⟩ | rfl) ?_
          refine WpO.splitB 29 (by simp -implicitDefEqProofs [h2, g18, g23] <;> rfl) (by rfl) (fun g29 => ?_) (fun g29 => ?_)
          · try (exfalso; revert g29; simp; done)
            all_goals
              have g29' := g29; first | simp only [dT, dF] at g29' | try simp at g29'
              refine WpO.data (by simp) rfl (by simp -implicitDefEqProofs [h2, g18, g23, g29] <;> rfl) (by simp -implicitDefEqProofs [h2, g18, g23, g29] <;> rfl) (by simp -implicitDefEqProofs [h2, g18, g23, g29] <;> rfl) call_8 (by simp) (awake_ok) (by rfl) (by simp -implicitDefEqProofs [h2, g18, g23, g29] <;> rfl) ?_
              refine WpO.run tabOk 2 (by simp -implicitDefEqProofs [h2, g18, g23, g29] <;> first | exact ⟨rfl, rfl⟩ | rfl) ?_
              refine WpO.nil ?_
              refine WpC.ret ?_
              try simp only [blockQ, seqQ]
              refine retD_i (by simp -implicitDefEqProofs [h2, g18, g23, g29] <;> rfl) (by simp -implicitDefEqProofs [h2, g18, g23, g29] <;> rfl) ?_
              simp -implicitDefEqProofs [h2, g18, g23, g29]
          · try (exfalso; revert g29; simp; done)
            all_goals
              have g29' := g29; first | simp only [dT, dF] at g29' | try simp at g29'
              refine WpO.run tabOk 3 (by simp -implicitDefEqProofs [h2, g18, g23, g29] <;> first | exact ⟨rfl, rfl⟩ | rfl) ?_
              refine WpO.nil ?_
              refine WpC.ret ?_
              try simp only [blockQ, seqQ]
              refine retD_i (by simp -implicitDefEqProofs [h2, g18, g23, g29] <;> rfl) (by simp -implicitDefEqProofs [h2, g18, g23, g29] <;> rfl) ?_
              simp -implicitDefEqProofs [h2, g18, g23, g29]
      · try (exfalso; revert g23; simp; done)
        all_goals
          have g23' := g23; first | simp only [dT, dF] at g23' | try simp at g23'
          refine WpO.run tabOk 9 (by simp -implicitDefEqProofs [h2, g18, g23] <;> first | exact ⟨rfl, rfl⟩ | rfl) ?_
          refine WpO.nil ?_
          refine WpC.ret ?_
          try simp only [blockQ, seqQ]
          refine retD_i (by simp -implicitDefEqProofs [h2, g18, g23] <;> rfl) (by simp -implicitDefEqProofs [h2, g18, g23] <;> rfl) ?_
          simp -implicitDefEqProofs [h2, g18, g23]
  · try (exfalso; revert g18; simp; done)
    all_goals
      have g18' := g18; first | simp only [dT, dF] at g18' | try simp at g18'
      refine WpO.run tabOk 14 (by simp -implicitDefEqProofs [h2, g18] <;> first | exact ⟨rfl, rfl⟩ | rfl) ?_
      refine WpO.nil ?_
      refine WpC.ret ?_
      try simp only [blockQ, seqQ]
      refine retD_i (by simp -implicitDefEqProofs [h2, g18] <;> rfl) (by simp -implicitDefEqProofs [h2, g18] <;> rfl) ?_
      simp -implicitDefEqProofs [h2, g18]
theorem reads_some (s : List UInt8) (h : s.length ≤ 2000) (per : Int) (l : List Pm) (hn : readR s = some (per, l)) : Gives Tryd.prog 4 [.d (.str s)] (.d (.bool true)) := by
  have h2 : ¬ (2000 : Int) < s.length := by omega
  have hr := readA_ok s (by omega)
  rw [hn] at hr
  simp only [encR] at hr
  obtain ⟨hrt, htx⟩ := read_some hn
  have hl := right_len hrt
  have hf := ref_ok per l (by omega)
  have hg := right22_ok per l (by omega)
  rw [hrt] at hg
  have ht := text22_ok per l hrt
  rw [htx] at ht
  refine Gives.enter tabOk Tryd.func4 rfl (by show 1 ≤ 45; decide) ?_
  simp only [Tryd.f4]
  refine qR (by simp -implicitDefEqProofs [h2] <;> rfl) ?_
  refine WpC.seq ?_
  refine qR (by simp -implicitDefEqProofs [h2] <;> rfl) ?_
  refine WpC.condF (by simp -implicitDefEqProofs [h2] <;> rfl) ?_
  refine WpC.skip ?_
  refine WpC.seq ?_
  refine WpC.region ?_
  refine WpO.run tabOk 1 (by simp -implicitDefEqProofs [h2] <;> first | exact ⟨rfl, rfl⟩ | rfl) ?_
  refine WpO.data (by simp) rfl (by simp -implicitDefEqProofs [h2] <;> rfl) (by simp -implicitDefEqProofs [h2] <;> rfl) (by simp -implicitDefEqProofs [h2] <;> rfl) call_13 (by simp) (hr) (by rfl) (by simp -implicitDefEqProofs [h2] <;> rfl) ?_
  refine WpO.run tabOk 6 (by simp -implicitDefEqProofs [h2] <;> first | exact ⟨rfl, rfl⟩ | rfl) ?_
  refine WpO.nil ?_
  refine WpC.seq ?_
  refine qR (by simp -implicitDefEqProofs [h2] <;> rfl) ?_
  refine WpC.condF (by simp -implicitDefEqProofs [h2] <;> rfl) ?_
  refine WpC.skip ?_
  refine WpC.seq ?_
  refine WpC.region ?_
  refine WpO.run tabOk 1 (by simp -implicitDefEqProofs [h2] <;> first | exact ⟨rfl, rfl⟩ | rfl) ?_
  refine WpO.data (by simp) rfl (by simp -implicitDefEqProofs [h2] <;> rfl) (by simp -implicitDefEqProofs [h2] <;> rfl) (by simp -implicitDefEqProofs [h2] <;> rfl) call_11 (by simp) (hf) (by rfl) (by simp -implicitDefEqProofs [h2] <;> rfl) ?_
  refine WpO.data (by simp) rfl (by simp -implicitDefEqProofs [h2] <;> rfl) (by simp -implicitDefEqProofs [h2] <;> rfl) (by simp -implicitDefEqProofs [h2] <;> rfl) call_10 (by simp) (hg) (by rfl) (by simp -implicitDefEqProofs [h2] <;> rfl) ?_
  refine WpO.run tabOk 1 (by simp -implicitDefEqProofs [h2] <;> first | exact ⟨rfl, rfl⟩ | rfl) ?_
  refine WpO.splitB 35 (by simp -implicitDefEqProofs [h2] <;> rfl) (by rfl) (fun g35 => ?_) (fun g35 => ?_)
  · try (exfalso; revert g35; simp; done)
    all_goals
      have g35' := g35; first | simp only [dT, dF] at g35' | try simp at g35'
      refine WpO.run tabOk 1 (by simp -implicitDefEqProofs [h2, g35] <;> first | exact ⟨rfl, rfl⟩ | rfl) ?_
      refine WpO.data (by simp) rfl (by simp -implicitDefEqProofs [h2, g35] <;> rfl) (by simp -implicitDefEqProofs [h2, g35] <;> rfl) (by simp -implicitDefEqProofs [h2, g35] <;> rfl) call_11 (by simp) (hf) (by rfl) (by simp -implicitDefEqProofs [h2, g35] <;> rfl) ?_
      refine WpO.data (by simp) rfl (by simp -implicitDefEqProofs [h2, g35] <;> rfl) (by simp -implicitDefEqProofs [h2, g35] <;> rfl) (by simp -implicitDefEqProofs [h2, g35] <;> rfl) call_14 (by simp) (ht) (by rfl) (by simp -implicitDefEqProofs [h2, g35] <;> rfl) ?_
      refine WpO.run tabOk 4 (by simp -implicitDefEqProofs [h2, g35] <;> first | exact ⟨rfl, rfl⟩ | rfl) ?_
      refine WpO.splitB 42 (by simp -implicitDefEqProofs [h2, g35] <;> rfl) (by rfl) (fun g42 => ?_) (fun g42 => ?_)
      · try (exfalso; revert g42; simp; done)
        all_goals
          have g42' := g42; first | simp only [dT, dF] at g42' | try simp at g42'
          refine WpO.data (by simp) rfl (by simp -implicitDefEqProofs [h2, g35, g42] <;> rfl) (by simp -implicitDefEqProofs [h2, g35, g42] <;> rfl) (by simp -implicitDefEqProofs [h2, g35, g42] <;> rfl) call_8 (by simp) (awake_ok) (by rfl) (by simp -implicitDefEqProofs [h2, g35, g42] <;> rfl) ?_
          refine WpO.run tabOk 2 (by simp -implicitDefEqProofs [h2, g35, g42] <;> first | exact ⟨rfl, rfl⟩ | rfl) ?_
          refine WpO.nil ?_
          refine WpC.ret ?_
          try simp only [blockQ, seqQ]
          refine retD_i (by simp -implicitDefEqProofs [h2, g35, g42] <;> rfl) (by simp -implicitDefEqProofs [h2, g35, g42] <;> rfl) ?_
          simp -implicitDefEqProofs [h2, g35, g42]
      · try (exfalso; revert g42; simp; done)
        all_goals
          have g42' := g42; first | simp only [dT, dF] at g42' | try simp at g42'
          refine WpO.run tabOk 3 (by simp -implicitDefEqProofs [h2, g35, g42] <;> first | exact ⟨rfl, rfl⟩ | rfl) ?_
          refine WpO.nil ?_
          refine WpC.ret ?_
          try simp only [blockQ, seqQ]
          refine retD_i (by simp -implicitDefEqProofs [h2, g35, g42] <;> rfl) (by simp -implicitDefEqProofs [h2, g35, g42] <;> rfl) ?_
          simp -implicitDefEqProofs [h2, g35, g42]
  · try (exfalso; revert g35; simp; done)
    all_goals
      have g35' := g35; first | simp only [dT, dF] at g35' | try simp at g35'
      refine WpO.run tabOk 10 (by simp -implicitDefEqProofs [h2, g35] <;> first | exact ⟨rfl, rfl⟩ | rfl) ?_
      refine WpO.nil ?_
      refine WpC.ret ?_
      try simp only [blockQ, seqQ]
      refine retD_i (by simp -implicitDefEqProofs [h2, g35] <;> rfl) (by simp -implicitDefEqProofs [h2, g35] <;> rfl) ?_
      simp -implicitDefEqProofs [h2, g35]
theorem bankReads_walk (s : List UInt8) : Gives Tryd.prog 4 [.d (.str s)] (.d (.bool true)) := by
  by_cases h : s.length ≤ 2000
  · cases hn : readR s with
    | none => exact reads_none s h hn
    | some f => exact reads_some s h f.1 f.2 hn
  · exact reads_long s (by omega)
end Go.Proofs.YtjlamhilnkadcaaDoor.Pay
