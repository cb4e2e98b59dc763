/- Law BankTurned. No statement of the seed is proved here but that one's walk. -/
import Derived.Test.YtjlamhilnkadcaaDoorBkR
namespace Go.Proofs.YtjlamhilnkadcaaDoor.Pay
open Go Go.RowKit
set_option linter.unusedVariables false
set_option linter.unusedSimpArgs false

theorem turned_no (per : Int) (l : List Pm) (at_ by_ : Int) (off : Bool) (hl : l.length ≤ 9223372036854775807) (h : ¬ (l.length ≤ 100 ∧ rightB per l = true)) : Gives Tryd.prog 5 [.d (encF per l), .d (.int .u16 at_), .d (.int .u8 by_), .d (.bool off)] (.d (.bool true)) := by
  have hw := writeA_ok per l hl
  by_cases h1 : l.length ≤ 100
  · have hr : rightB per l = false := by
      cases hr : rightB per l with
      | false => rfl
      | true => exact absurd ⟨h1, hr⟩ h
    have h2 : ¬ (100 : Int) < l.length := by omega
    have hs : wrS per l = [] := by rw [wrS, if_neg (by simp [hr])]
    have he : wrE per l = 1 := by rw [wrE, if_neg (by simp [hr])]
    rw [hs, he] at hw
    refine Gives.enter tabOk Tryd.func5 rfl (by show 4 ≤ 114; decide) ?_
    simp only [Tryd.f5]
    refine qR (by simp -implicitDefEqProofs [u8s, h2] <;> rfl) ?_
    refine WpC.seq ?_
    refine WpC.region ?_
    refine WpO.run tabOk 1 (by simp -implicitDefEqProofs [u8s, h2] <;> first | exact ⟨rfl, rfl⟩ | rfl) ?_
    refine WpO.data (by simp) rfl (by simp -implicitDefEqProofs [u8s, h2] <;> rfl) (by simp -implicitDefEqProofs [u8s, h2] <;> rfl) (by simp -implicitDefEqProofs [u8s, h2] <;> rfl) call_9 (by simp) (hw) (by rfl) (by simp -implicitDefEqProofs [u8s, h2] <;> rfl) ?_
    refine WpO.run tabOk 5 (by simp -implicitDefEqProofs [u8s, h2] <;> first | exact ⟨rfl, rfl⟩ | rfl) ?_
    refine WpO.nil ?_
    refine WpC.seq ?_
    refine WpC.seq ?_
    refine WpC.region ?_
    refine WpO.run tabOk 5 (by simp -implicitDefEqProofs [u8s, h2] <;> first | exact ⟨rfl, rfl⟩ | rfl) ?_
    refine WpO.splitB 24 (by simp -implicitDefEqProofs [u8s, h2] <;> rfl) (by rfl) (fun g24 => ?_) (fun g24 => ?_)
    · try (exfalso; revert g24; simp; done)
      all_goals
        have g24' := g24; first | simp only [dT, dF] at g24' | try simp at g24'
        refine WpO.run tabOk 7 (by simp -implicitDefEqProofs [u8s, h2, g24] <;> first | exact ⟨rfl, rfl⟩ | rfl) ?_
        refine WpO.nil ?_
        refine WpC.condT (by simp -implicitDefEqProofs [u8s, h2, g24] <;> rfl) ?_
        refine WpC.seq ?_
        refine WpC.region ?_
        refine WpO.run tabOk 5 (by simp -implicitDefEqProofs [u8s, h2, g24] <;> first | exact ⟨rfl, rfl⟩ | rfl) ?_
        refine WpO.splitB 36 (by simp -implicitDefEqProofs [u8s, h2, g24] <;> rfl) (by rfl) (fun g36 => ?_) (fun g36 => ?_)
        · try (exfalso; revert g36; simp; done)
          all_goals
            have g36' := g36; first | simp only [dT, dF] at g36' | try simp at g36'
            refine WpO.run tabOk 4 (by simp -implicitDefEqProofs [u8s, h2, g24, g36] <;> first | exact ⟨rfl, rfl⟩ | rfl) ?_
            refine WpO.data (by simp) rfl (by simp -implicitDefEqProofs [u8s, h2, g24, g36] <;> rfl) (by simp -implicitDefEqProofs [u8s, h2, g24, g36] <;> rfl) (by simp -implicitDefEqProofs [u8s, h2, g24, g36] <;> rfl) call_8 (by simp) (awake_ok) (by rfl) (by simp -implicitDefEqProofs [u8s, h2, g24, g36] <;> rfl) ?_
            refine WpO.run tabOk 2 (by simp -implicitDefEqProofs [u8s, h2, g24, g36] <;> first | exact ⟨rfl, rfl⟩ | rfl) ?_
            refine WpO.nil ?_
            refine WpC.ret ?_
            try simp only [blockQ, seqQ]
            refine retD_i (by simp -implicitDefEqProofs [u8s, h2, g24, g36] <;> rfl) (by simp -implicitDefEqProofs [u8s, h2, g24, g36] <;> rfl) ?_
            simp -implicitDefEqProofs [u8s, h2, g24, g36]
        · try (exfalso; revert g36; simp; done)
          all_goals
            have g36' := g36; first | simp only [dT, dF] at g36' | try simp at g36'
            refine WpO.run tabOk 4 (by simp -implicitDefEqProofs [u8s, h2, g24, g36] <;> first | exact ⟨rfl, rfl⟩ | rfl) ?_
            refine WpO.splitB 40 (by simp -implicitDefEqProofs [u8s, h2, g24, g36] <;> rfl) (by rfl) (fun g40 => ?_) (fun g40 => ?_)
            · try (exfalso; revert g40; simp; done)
              all_goals
                have g40' := g40; first | simp only [dT, dF] at g40' | try simp at g40'
                refine WpO.data (by simp) rfl (by simp -implicitDefEqProofs [u8s, h2, g24, g36, g40] <;> rfl) (by simp -implicitDefEqProofs [u8s, h2, g24, g36, g40] <;> rfl) (by simp -implicitDefEqProofs [u8s, h2, g24, g36, g40] <;> rfl) call_8 (by simp) (awake_ok) (by rfl) (by simp -implicitDefEqProofs [u8s, h2, g24, g36, g40] <;> rfl) ?_
                refine WpO.run tabOk 2 (by simp -implicitDefEqProofs [u8s, h2, g24, g36, g40] <;> first | exact ⟨rfl, rfl⟩ | rfl) ?_
                refine WpO.nil ?_
                refine WpC.ret ?_
                try simp only [blockQ, seqQ]
                refine retD_i (by simp -implicitDefEqProofs [u8s, h2, g24, g36, g40] <;> rfl) (by simp -implicitDefEqProofs [u8s, h2, g24, g36, g40] <;> rfl) ?_
                simp -implicitDefEqProofs [u8s, h2, g24, g36, g40]
            · try (exfalso; revert g40; simp; done)
              all_goals
                have g40' := g40; first | simp only [dT, dF] at g40' | try simp at g40'
                refine WpO.run tabOk 3 (by simp -implicitDefEqProofs [u8s, h2, g24, g36, g40] <;> first | exact ⟨rfl, rfl⟩ | rfl) ?_
                refine WpO.nil ?_
                refine WpC.ret ?_
                try simp only [blockQ, seqQ]
                refine retD_i (by simp -implicitDefEqProofs [u8s, h2, g24, g36, g40] <;> rfl) (by simp -implicitDefEqProofs [u8s, h2, g24, g36, g40] <;> rfl) ?_
                simp -implicitDefEqProofs [u8s, h2, g24, g36, g40]
    · try (exfalso; revert g24; simp; done)
      all_goals
        have g24' := g24; first | simp only [dT, dF] at g24' | try simp at g24'
        refine WpO.run tabOk 4 (by simp -implicitDefEqProofs [u8s, h2, g24] <;> first | exact ⟨rfl, rfl⟩ | rfl) ?_
        refine WpO.splitB 28 (by simp -implicitDefEqProofs [u8s, h2, g24] <;> rfl) (by rfl) (fun g28 => ?_) (fun g28 => ?_)
        · try (exfalso; revert g28; simp; done)
          all_goals
            have g28' := g28; first | simp only [dT, dF] at g28' | try simp at g28'
            refine WpO.run tabOk 3 (by simp -implicitDefEqProofs [u8s, h2, g24, g28] <;> first | exact ⟨rfl, rfl⟩ | rfl) ?_
            refine WpO.nil ?_
            refine WpC.condT (by simp -implicitDefEqProofs [u8s, h2, g24, g28] <;> rfl) ?_
            refine WpC.seq ?_
            refine WpC.region ?_
            refine WpO.run tabOk 5 (by simp -implicitDefEqProofs [u8s, h2, g24, g28] <;> first | exact ⟨rfl, rfl⟩ | rfl) ?_
            refine WpO.splitB 36 (by simp -implicitDefEqProofs [u8s, h2, g24, g28] <;> rfl) (by rfl) (fun g36 => ?_) (fun g36 => ?_)
            · try (exfalso; revert g36; simp; done)
              all_goals
                have g36' := g36; first | simp only [dT, dF] at g36' | try simp at g36'
                refine WpO.run tabOk 4 (by simp -implicitDefEqProofs [u8s, h2, g24, g28, g36] <;> first | exact ⟨rfl, rfl⟩ | rfl) ?_
                refine WpO.data (by simp) rfl (by simp -implicitDefEqProofs [u8s, h2, g24, g28, g36] <;> rfl) (by simp -implicitDefEqProofs [u8s, h2, g24, g28, g36] <;> rfl) (by simp -implicitDefEqProofs [u8s, h2, g24, g28, g36] <;> rfl) call_8 (by simp) (awake_ok) (by rfl) (by simp -implicitDefEqProofs [u8s, h2, g24, g28, g36] <;> rfl) ?_
                refine WpO.run tabOk 2 (by simp -implicitDefEqProofs [u8s, h2, g24, g28, g36] <;> first | exact ⟨rfl, rfl⟩ | rfl) ?_
                refine WpO.nil ?_
                refine WpC.ret ?_
                try simp only [blockQ, seqQ]
                refine retD_i (by simp -implicitDefEqProofs [u8s, h2, g24, g28, g36] <;> rfl) (by simp -implicitDefEqProofs [u8s, h2, g24, g28, g36] <;> rfl) ?_
                simp -implicitDefEqProofs [u8s, h2, g24, g28, g36]
            · try (exfalso; revert g36; simp; done)
              all_goals
                have g36' := g36; first | simp only [dT, dF] at g36' | try simp at g36'
                refine WpO.run tabOk 4 (by simp -implicitDefEqProofs [u8s, h2, g24, g28, g36] <;> first | exact ⟨rfl, rfl⟩ | rfl) ?_
                refine WpO.splitB 40 (by simp -implicitDefEqProofs [u8s, h2, g24, g28, g36] <;> rfl) (by rfl) (fun g40 => ?_) (fun g40 => ?_)
                · try (exfalso; revert g40; simp; done)
                  all_goals
                    have g40' := g40; first | simp only [dT, dF] at g40' | try simp at g40'
                    refine WpO.data (by simp) rfl (by simp -implicitDefEqProofs [u8s, h2, g24, g28, g36, g40] <;> rfl) (by simp -implicitDefEqProofs [u8s, h2, g24, g28, g36, g40] <;> rfl) (by simp -implicitDefEqProofs [u8s, h2, g24, g28, g36, g40] <;> rfl) call_8 (by simp) (awake_ok) (by rfl) (by simp -implicitDefEqProofs [u8s, h2, g24, g28, g36, g40] <;> rfl) ?_
                    refine WpO.run tabOk 2 (by simp -implicitDefEqProofs [u8s, h2, g24, g28, g36, g40] <;> first | exact ⟨rfl, rfl⟩ | rfl) ?_
                    refine WpO.nil ?_
                    refine WpC.ret ?_
                    try simp only [blockQ, seqQ]
                    refine retD_i (by simp -implicitDefEqProofs [u8s, h2, g24, g28, g36, g40] <;> rfl) (by simp -implicitDefEqProofs [u8s, h2, g24, g28, g36, g40] <;> rfl) ?_
                    simp -implicitDefEqProofs [u8s, h2, g24, g28, g36, g40]
                · try (exfalso; revert g40; simp; done)
                  all_goals
                    have g40' := g40; first | simp only [dT, dF] at g40' | try simp at g40'
                    refine WpO.run tabOk 3 (by simp -implicitDefEqProofs [u8s, h2, g24, g28, g36, g40] <;> first | exact ⟨rfl, rfl⟩ | rfl) ?_
                    refine WpO.nil ?_
                    refine WpC.ret ?_
                    try simp only [blockQ, seqQ]
                    refine retD_i (by simp -implicitDefEqProofs [u8s, h2, g24, g28, g36, g40] <;> rfl) (by simp -implicitDefEqProofs [u8s, h2, g24, g28, g36, g40] <;> rfl) ?_
                    simp -implicitDefEqProofs [u8s, h2, g24, g28, g36, g40]
        · try (exfalso; revert g28; simp; done)
          all_goals
            have g28' := g28; first | simp only [dT, dF] at g28' | try simp at g28'
            refine WpO.run tabOk 3 (by simp -implicitDefEqProofs [u8s, h2, g24, g28] <;> first | exact ⟨rfl, rfl⟩ | rfl) ?_
            refine WpO.nil ?_
            refine WpC.condT (by simp -implicitDefEqProofs [u8s, h2, g24, g28] <;> rfl) ?_
            refine WpC.seq ?_
            refine WpC.region ?_
            refine WpO.run tabOk 5 (by simp -implicitDefEqProofs [u8s, h2, g24, g28] <;> first | exact ⟨rfl, rfl⟩ | rfl) ?_
            refine WpO.splitB 36 (by simp -implicitDefEqProofs [u8s, h2, g24, g28] <;> rfl) (by rfl) (fun g36 => ?_) (fun g36 => ?_)
            · try (exfalso; revert g36; simp; done)
              all_goals
                have g36' := g36; first | simp only [dT, dF] at g36' | try simp at g36'
                refine WpO.run tabOk 4 (by simp -implicitDefEqProofs [u8s, h2, g24, g28, g36] <;> first | exact ⟨rfl, rfl⟩ | rfl) ?_
                refine WpO.data (by simp) rfl (by simp -implicitDefEqProofs [u8s, h2, g24, g28, g36] <;> rfl) (by simp -implicitDefEqProofs [u8s, h2, g24, g28, g36] <;> rfl) (by simp -implicitDefEqProofs [u8s, h2, g24, g28, g36] <;> rfl) call_8 (by simp) (awake_ok) (by rfl) (by simp -implicitDefEqProofs [u8s, h2, g24, g28, g36] <;> rfl) ?_
                refine WpO.run tabOk 2 (by simp -implicitDefEqProofs [u8s, h2, g24, g28, g36] <;> first | exact ⟨rfl, rfl⟩ | rfl) ?_
                refine WpO.nil ?_
                refine WpC.ret ?_
                try simp only [blockQ, seqQ]
                refine retD_i (by simp -implicitDefEqProofs [u8s, h2, g24, g28, g36] <;> rfl) (by simp -implicitDefEqProofs [u8s, h2, g24, g28, g36] <;> rfl) ?_
                simp -implicitDefEqProofs [u8s, h2, g24, g28, g36]
            · try (exfalso; revert g36; simp; done)
              all_goals
                have g36' := g36; first | simp only [dT, dF] at g36' | try simp at g36'
                refine WpO.run tabOk 4 (by simp -implicitDefEqProofs [u8s, h2, g24, g28, g36] <;> first | exact ⟨rfl, rfl⟩ | rfl) ?_
                refine WpO.splitB 40 (by simp -implicitDefEqProofs [u8s, h2, g24, g28, g36] <;> rfl) (by rfl) (fun g40 => ?_) (fun g40 => ?_)
                · try (exfalso; revert g40; simp; done)
                  all_goals
                    have g40' := g40; first | simp only [dT, dF] at g40' | try simp at g40'
                    refine WpO.data (by simp) rfl (by simp -implicitDefEqProofs [u8s, h2, g24, g28, g36, g40] <;> rfl) (by simp -implicitDefEqProofs [u8s, h2, g24, g28, g36, g40] <;> rfl) (by simp -implicitDefEqProofs [u8s, h2, g24, g28, g36, g40] <;> rfl) call_8 (by simp) (awake_ok) (by rfl) (by simp -implicitDefEqProofs [u8s, h2, g24, g28, g36, g40] <;> rfl) ?_
                    refine WpO.run tabOk 2 (by simp -implicitDefEqProofs [u8s, h2, g24, g28, g36, g40] <;> first | exact ⟨rfl, rfl⟩ | rfl) ?_
                    refine WpO.nil ?_
                    refine WpC.ret ?_
                    try simp only [blockQ, seqQ]
                    refine retD_i (by simp -implicitDefEqProofs [u8s, h2, g24, g28, g36, g40] <;> rfl) (by simp -implicitDefEqProofs [u8s, h2, g24, g28, g36, g40] <;> rfl) ?_
                    simp -implicitDefEqProofs [u8s, h2, g24, g28, g36, g40]
                · try (exfalso; revert g40; simp; done)
                  all_goals
                    have g40' := g40; first | simp only [dT, dF] at g40' | try simp at g40'
                    refine WpO.run tabOk 3 (by simp -implicitDefEqProofs [u8s, h2, g24, g28, g36, g40] <;> first | exact ⟨rfl, rfl⟩ | rfl) ?_
                    refine WpO.nil ?_
                    refine WpC.ret ?_
                    try simp only [blockQ, seqQ]
                    refine retD_i (by simp -implicitDefEqProofs [u8s, h2, g24, g28, g36, g40] <;> rfl) (by simp -implicitDefEqProofs [u8s, h2, g24, g28, g36, g40] <;> rfl) ?_
                    simp -implicitDefEqProofs [u8s, h2, g24, g28, g36, g40]
  · have h2 : (100 : Int) < l.length := by omega
    refine Gives.enter tabOk Tryd.func5 rfl (by show 4 ≤ 114; decide) ?_
    simp only [Tryd.f5]
    refine qR (by simp -implicitDefEqProofs [u8s, h2] <;> rfl) ?_
    refine WpC.seq ?_
    refine WpC.region ?_
    refine WpO.run tabOk 1 (by simp -implicitDefEqProofs [u8s, h2] <;> first | exact ⟨rfl, rfl⟩ | rfl) ?_
    refine WpO.data (by simp) rfl (by simp -implicitDefEqProofs [u8s, h2] <;> rfl) (by simp -implicitDefEqProofs [u8s, h2] <;> rfl) (by simp -implicitDefEqProofs [u8s, h2] <;> rfl) call_9 (by simp) (hw) (by rfl) (by simp -implicitDefEqProofs [u8s, h2] <;> rfl) ?_
    refine WpO.run tabOk 5 (by simp -implicitDefEqProofs [u8s, h2] <;> first | exact ⟨rfl, rfl⟩ | rfl) ?_
    refine WpO.nil ?_
    refine WpC.seq ?_
    refine WpC.seq ?_
    refine WpC.region ?_
    refine WpO.run tabOk 5 (by simp -implicitDefEqProofs [u8s, h2] <;> first | exact ⟨rfl, rfl⟩ | rfl) ?_
    refine WpO.splitB 24 (by simp -implicitDefEqProofs [u8s, h2] <;> rfl) (by rfl) (fun g24 => ?_) (fun g24 => ?_)
    · try (exfalso; revert g24; simp; done)
      all_goals
        have g24' := g24; first | simp only [dT, dF] at g24' | try simp at g24'
        refine WpO.run tabOk 7 (by simp -implicitDefEqProofs [u8s, h2, g24] <;> first | exact ⟨rfl, rfl⟩ | rfl) ?_
        refine WpO.nil ?_
        refine WpC.condT (by simp -implicitDefEqProofs [u8s, h2, g24] <;> rfl) ?_
        refine WpC.seq ?_
        refine WpC.region ?_
        refine WpO.run tabOk 5 (by simp -implicitDefEqProofs [u8s, h2, g24] <;> first | exact ⟨rfl, rfl⟩ | rfl) ?_
        refine WpO.splitB 36 (by simp -implicitDefEqProofs [u8s, h2, g24] <;> rfl) (by rfl) (fun g36 => ?_) (fun g36 => ?_)
        · try (exfalso; revert g36; simp; done)
          all_goals
            have g36' := g36; first | simp only [dT, dF] at g36' | try simp at g36'
            refine WpO.run tabOk 4 (by simp -implicitDefEqProofs [u8s, h2, g24, g36] <;> first | exact ⟨rfl, rfl⟩ | rfl) ?_
            refine WpO.data (by simp) rfl (by simp -implicitDefEqProofs [u8s, h2, g24, g36] <;> rfl) (by simp -implicitDefEqProofs [u8s, h2, g24, g36] <;> rfl) (by simp -implicitDefEqProofs [u8s, h2, g24, g36] <;> rfl) call_8 (by simp) (awake_ok) (by rfl) (by simp -implicitDefEqProofs [u8s, h2, g24, g36] <;> rfl) ?_
            refine WpO.run tabOk 2 (by simp -implicitDefEqProofs [u8s, h2, g24, g36] <;> first | exact ⟨rfl, rfl⟩ | rfl) ?_
            refine WpO.nil ?_
            refine WpC.ret ?_
            try simp only [blockQ, seqQ]
            refine retD_i (by simp -implicitDefEqProofs [u8s, h2, g24, g36] <;> rfl) (by simp -implicitDefEqProofs [u8s, h2, g24, g36] <;> rfl) ?_
            simp -implicitDefEqProofs [u8s, h2, g24, g36]
        · try (exfalso; revert g36; simp; done)
          all_goals
            have g36' := g36; first | simp only [dT, dF] at g36' | try simp at g36'
            refine WpO.run tabOk 4 (by simp -implicitDefEqProofs [u8s, h2, g24, g36] <;> first | exact ⟨rfl, rfl⟩ | rfl) ?_
            refine WpO.splitB 40 (by simp -implicitDefEqProofs [u8s, h2, g24, g36] <;> rfl) (by rfl) (fun g40 => ?_) (fun g40 => ?_)
            · try (exfalso; revert g40; simp; done)
              all_goals
                have g40' := g40; first | simp only [dT, dF] at g40' | try simp at g40'
                refine WpO.data (by simp) rfl (by simp -implicitDefEqProofs [u8s, h2, g24, g36, g40] <;> rfl) (by simp -implicitDefEqProofs [u8s, h2, g24, g36, g40] <;> rfl) (by simp -implicitDefEqProofs [u8s, h2, g24, g36, g40] <;> rfl) call_8 (by simp) (awake_ok) (by rfl) (by simp -implicitDefEqProofs [u8s, h2, g24, g36, g40] <;> rfl) ?_
                refine WpO.run tabOk 2 (by simp -implicitDefEqProofs [u8s, h2, g24, g36, g40] <;> first | exact ⟨rfl, rfl⟩ | rfl) ?_
                refine WpO.nil ?_
                refine WpC.ret ?_
                try simp only [blockQ, seqQ]
                refine retD_i (by simp -implicitDefEqProofs [u8s, h2, g24, g36, g40] <;> rfl) (by simp -implicitDefEqProofs [u8s, h2, g24, g36, g40] <;> rfl) ?_
                simp -implicitDefEqProofs [u8s, h2, g24, g36, g40]
            · try (exfalso; revert g40; simp; done)
              all_goals
                have g40' := g40; first | simp only [dT, dF] at g40' | try simp at g40'
                refine WpO.run tabOk 3 (by simp -implicitDefEqProofs [u8s, h2, g24, g36, g40] <;> first | exact ⟨rfl, rfl⟩ | rfl) ?_
                refine WpO.nil ?_
                refine WpC.ret ?_
                try simp only [blockQ, seqQ]
                refine retD_i (by simp -implicitDefEqProofs [u8s, h2, g24, g36, g40] <;> rfl) (by simp -implicitDefEqProofs [u8s, h2, g24, g36, g40] <;> rfl) ?_
                simp -implicitDefEqProofs [u8s, h2, g24, g36, g40]
    · try (exfalso; revert g24; simp; done)
      all_goals
        have g24' := g24; first | simp only [dT, dF] at g24' | try simp at g24'
        refine WpO.run tabOk 4 (by simp -implicitDefEqProofs [u8s, h2, g24] <;> first | exact ⟨rfl, rfl⟩ | rfl) ?_
        refine WpO.splitB 28 (by simp -implicitDefEqProofs [u8s, h2, g24] <;> rfl) (by rfl) (fun g28 => ?_) (fun g28 => ?_)
        · try (exfalso; revert g28; simp; done)
          all_goals
            have g28' := g28; first | simp only [dT, dF] at g28' | try simp at g28'
            refine WpO.run tabOk 3 (by simp -implicitDefEqProofs [u8s, h2, g24, g28] <;> first | exact ⟨rfl, rfl⟩ | rfl) ?_
            refine WpO.nil ?_
            refine WpC.condT (by simp -implicitDefEqProofs [u8s, h2, g24, g28] <;> rfl) ?_
            refine WpC.seq ?_
            refine WpC.region ?_
            refine WpO.run tabOk 5 (by simp -implicitDefEqProofs [u8s, h2, g24, g28] <;> first | exact ⟨rfl, rfl⟩ | rfl) ?_
            refine WpO.splitB 36 (by simp -implicitDefEqProofs [u8s, h2, g24, g28] <;> rfl) (by rfl) (fun g36 => ?_) (fun g36 => ?_)
            · try (exfalso; revert g36; simp; done)
              all_goals
                have g36' := g36; first | simp only [dT, dF] at g36' | try simp at g36'
                refine WpO.run tabOk 4 (by simp -implicitDefEqProofs [u8s, h2, g24, g28, g36] <;> first | exact ⟨rfl, rfl⟩ | rfl) ?_
                refine WpO.data (by simp) rfl (by simp -implicitDefEqProofs [u8s, h2, g24, g28, g36] <;> rfl) (by simp -implicitDefEqProofs [u8s, h2, g24, g28, g36] <;> rfl) (by simp -implicitDefEqProofs [u8s, h2, g24, g28, g36] <;> rfl) call_8 (by simp) (awake_ok) (by rfl) (by simp -implicitDefEqProofs [u8s, h2, g24, g28, g36] <;> rfl) ?_
                refine WpO.run tabOk 2 (by simp -implicitDefEqProofs [u8s, h2, g24, g28, g36] <;> first | exact ⟨rfl, rfl⟩ | rfl) ?_
                refine WpO.nil ?_
                refine WpC.ret ?_
                try simp only [blockQ, seqQ]
                refine retD_i (by simp -implicitDefEqProofs [u8s, h2, g24, g28, g36] <;> rfl) (by simp -implicitDefEqProofs [u8s, h2, g24, g28, g36] <;> rfl) ?_
                simp -implicitDefEqProofs [u8s, h2, g24, g28, g36]
            · try (exfalso; revert g36; simp; done)
              all_goals
                have g36' := g36; first | simp only [dT, dF] at g36' | try simp at g36'
                refine WpO.run tabOk 4 (by simp -implicitDefEqProofs [u8s, h2, g24, g28, g36] <;> first | exact ⟨rfl, rfl⟩ | rfl) ?_
                refine WpO.splitB 40 (by simp -implicitDefEqProofs [u8s, h2, g24, g28, g36] <;> rfl) (by rfl) (fun g40 => ?_) (fun g40 => ?_)
                · try (exfalso; revert g40; simp; done)
                  all_goals
                    have g40' := g40; first | simp only [dT, dF] at g40' | try simp at g40'
                    refine WpO.data (by simp) rfl (by simp -implicitDefEqProofs [u8s, h2, g24, g28, g36, g40] <;> rfl) (by simp -implicitDefEqProofs [u8s, h2, g24, g28, g36, g40] <;> rfl) (by simp -implicitDefEqProofs [u8s, h2, g24, g28, g36, g40] <;> rfl) call_8 (by simp) (awake_ok) (by rfl) (by simp -implicitDefEqProofs [u8s, h2, g24, g28, g36, g40] <;> rfl) ?_
                    refine WpO.run tabOk 2 (by simp -implicitDefEqProofs [u8s, h2, g24, g28, g36, g40] <;> first | exact ⟨rfl, rfl⟩ | rfl) ?_
                    refine WpO.nil ?_
                    refine WpC.ret ?_
                    try simp only [blockQ, seqQ]
                    refine retD_i (by simp -implicitDefEqProofs [u8s, h2, g24, g28, g36, g40] <;> rfl) (by simp -implicitDefEqProofs [u8s, h2, g24, g28, g36, g40] <;> rfl) ?_
                    simp -implicitDefEqProofs [u8s, h2, g24, g28, g36, g40]
                · try (exfalso; revert g40; simp; done)
                  all_goals
                    have g40' := g40; first | simp only [dT, dF] at g40' | try simp at g40'
                    refine WpO.run tabOk 3 (by simp -implicitDefEqProofs [u8s, h2, g24, g28, g36, g40] <;> first | exact ⟨rfl, rfl⟩ | rfl) ?_
                    refine WpO.nil ?_
                    refine WpC.ret ?_
                    try simp only [blockQ, seqQ]
                    refine retD_i (by simp -implicitDefEqProofs [u8s, h2, g24, g28, g36, g40] <;> rfl) (by simp -implicitDefEqProofs [u8s, h2, g24, g28, g36, g40] <;> rfl) ?_
                    simp -implicitDefEqProofs [u8s, h2, g24, g28, g36, g40]
        · try (exfalso; revert g28; simp; done)
          all_goals
            have g28' := g28; first | simp only [dT, dF] at g28' | try simp at g28'
            refine WpO.run tabOk 3 (by simp -implicitDefEqProofs [u8s, h2, g24, g28] <;> first | exact ⟨rfl, rfl⟩ | rfl) ?_
            refine WpO.nil ?_
            refine WpC.condT (by simp -implicitDefEqProofs [u8s, h2, g24, g28] <;> rfl) ?_
            refine WpC.seq ?_
            refine WpC.region ?_
            refine WpO.run tabOk 5 (by simp -implicitDefEqProofs [u8s, h2, g24, g28] <;> first | exact ⟨rfl, rfl⟩ | rfl) ?_
            refine WpO.splitB 36 (by simp -implicitDefEqProofs [u8s, h2, g24, g28] <;> rfl) (by rfl) (fun g36 => ?_) (fun g36 => ?_)
            · try (exfalso; revert g36; simp; done)
              all_goals
                have g36' := g36; first | simp only [dT, dF] at g36' | try simp at g36'
                refine WpO.run tabOk 4 (by simp -implicitDefEqProofs [u8s, h2, g24, g28, g36] <;> first | exact ⟨rfl, rfl⟩ | rfl) ?_
                refine WpO.data (by simp) rfl (by simp -implicitDefEqProofs [u8s, h2, g24, g28, g36] <;> rfl) (by simp -implicitDefEqProofs [u8s, h2, g24, g28, g36] <;> rfl) (by simp -implicitDefEqProofs [u8s, h2, g24, g28, g36] <;> rfl) call_8 (by simp) (awake_ok) (by rfl) (by simp -implicitDefEqProofs [u8s, h2, g24, g28, g36] <;> rfl) ?_
                refine WpO.run tabOk 2 (by simp -implicitDefEqProofs [u8s, h2, g24, g28, g36] <;> first | exact ⟨rfl, rfl⟩ | rfl) ?_
                refine WpO.nil ?_
                refine WpC.ret ?_
                try simp only [blockQ, seqQ]
                refine retD_i (by simp -implicitDefEqProofs [u8s, h2, g24, g28, g36] <;> rfl) (by simp -implicitDefEqProofs [u8s, h2, g24, g28, g36] <;> rfl) ?_
                simp -implicitDefEqProofs [u8s, h2, g24, g28, g36]
            · try (exfalso; revert g36; simp; done)
              all_goals
                have g36' := g36; first | simp only [dT, dF] at g36' | try simp at g36'
                refine WpO.run tabOk 4 (by simp -implicitDefEqProofs [u8s, h2, g24, g28, g36] <;> first | exact ⟨rfl, rfl⟩ | rfl) ?_
                refine WpO.splitB 40 (by simp -implicitDefEqProofs [u8s, h2, g24, g28, g36] <;> rfl) (by rfl) (fun g40 => ?_) (fun g40 => ?_)
                · try (exfalso; revert g40; simp; done)
                  all_goals
                    have g40' := g40; first | simp only [dT, dF] at g40' | try simp at g40'
                    refine WpO.data (by simp) rfl (by simp -implicitDefEqProofs [u8s, h2, g24, g28, g36, g40] <;> rfl) (by simp -implicitDefEqProofs [u8s, h2, g24, g28, g36, g40] <;> rfl) (by simp -implicitDefEqProofs [u8s, h2, g24, g28, g36, g40] <;> rfl) call_8 (by simp) (awake_ok) (by rfl) (by simp -implicitDefEqProofs [u8s, h2, g24, g28, g36, g40] <;> rfl) ?_
                    refine WpO.run tabOk 2 (by simp -implicitDefEqProofs [u8s, h2, g24, g28, g36, g40] <;> first | exact ⟨rfl, rfl⟩ | rfl) ?_
                    refine WpO.nil ?_
                    refine WpC.ret ?_
                    try simp only [blockQ, seqQ]
                    refine retD_i (by simp -implicitDefEqProofs [u8s, h2, g24, g28, g36, g40] <;> rfl) (by simp -implicitDefEqProofs [u8s, h2, g24, g28, g36, g40] <;> rfl) ?_
                    simp -implicitDefEqProofs [u8s, h2, g24, g28, g36, g40]
                · try (exfalso; revert g40; simp; done)
                  all_goals
                    have g40' := g40; first | simp only [dT, dF] at g40' | try simp at g40'
                    refine WpO.run tabOk 3 (by simp -implicitDefEqProofs [u8s, h2, g24, g28, g36, g40] <;> first | exact ⟨rfl, rfl⟩ | rfl) ?_
                    refine WpO.nil ?_
                    refine WpC.ret ?_
                    try simp only [blockQ, seqQ]
                    refine retD_i (by simp -implicitDefEqProofs [u8s, h2, g24, g28, g36, g40] <;> rfl) (by simp -implicitDefEqProofs [u8s, h2, g24, g28, g36, g40] <;> rfl) ?_
                    simp -implicitDefEqProofs [u8s, h2, g24, g28, g36, g40]
set_option maxHeartbeats 4000000 in
theorem turned_yes (per : Int) (l : List Pm) (at_ by_ : Int) (off : Bool) (ha0 : 0 ≤ at_) (ha1 : at_ ≤ 65535) (hb0 : 0 ≤ by_) (hb1 : by_ ≤ 255) (h100 : l.length ≤ 100) (hr : rightB per l = true) :
    Gives Tryd.prog 5 [.d (encF per l), .d (.int .u16 at_), .d (.int .u8 by_), .d (.bool off)] (.d (.bool true)) := by
  have k2 : ¬ (100 : Int) < l.length := by omega
  have hw := writeA_ok per l (by omega)
  have hs : wrS per l = textL per l := by rw [wrS, if_pos hr]
  have he : wrE per l = 0 := by rw [wrE, if_pos hr]
  rw [hs, he] at hw
  have hf := ref_ok per l (by omega)
  have hlen := textL_len hr
  have hrt := read_text hr
  obtain ⟨T, hT⟩ : ∃ T, textL per l = T := ⟨_, rfl⟩
  rw [hT] at hw hlen hrt
  obtain ⟨N, hN⟩ : ∃ N, T.length = N := ⟨_, rfl⟩
  rw [hN] at hlen
  have hT0 : ¬ T = [] := fun e => by subst e; simp at hN; omega
  have w1 : IntKind.i64.wrap at_ = at_ := wrapI (by omega) (by omega)
  obtain ⟨i, hi⟩ : ∃ a : Nat, at_.tmod (N : Int) = a := ⟨(at_.tmod (N : Int)).toNat, by rw [Int.toNat_of_nonneg (Int.tmod_nonneg _ ha0)]⟩
  have hiN : i < N := by have := Int.tmod_lt_of_pos at_ (b := (N : Int)) (by omega); omega
  have hN0 : ¬ N = 0 := by omega
  have w2 : IntKind.i64.wrap ((i : Int) + 1) = ((i + 1 : Nat) : Int) := by rw [wrapI (by omega) (by omega)]; omega
  obtain ⟨i1, hi1⟩ : ∃ j, i + 1 = j := ⟨_, rfl⟩
  rw [hi1] at w2
  have k3 : i ≤ N := by omega
  have k4 : i1 ≤ N := by omega
  obtain ⟨c, hc⟩ : ∃ c, T[i]? = some c := ⟨T[i]'(by omega), List.getElem?_eq_getElem (by omega)⟩
  obtain ⟨x, hx⟩ : ∃ x, UInt8.ofNat (bits .xor .u8 (c.toNat : Int) by_).toNat = x := ⟨_, rfl⟩
  obtain ⟨A, hA⟩ : ∃ A, T.take i = A := ⟨_, rfl⟩
  obtain ⟨B, hB⟩ : ∃ B, T.drop i1 = B := ⟨_, rfl⟩
  have hAl : A.length = i := by rw [← hA, List.length_take]; omega
  have hBl : B.length = N - i1 := by rw [← hB, List.length_drop]; omega
  have b1 : ¬ (9223372036854775807 : Int) < i + 1 := by omega
  have b2 : ¬ (9223372036854775807 : Int) < i + 1 + ((N - i1 : Nat) : Int) := by omega
  have b3 : ¬ (9223372036854775807 : Int) < i + ((N - i1 : Nat) : Int) := by omega
  have hBB : B.take (N - i1) = B := List.take_of_length_le (by omega)
  have hiT : i < T.length := by omega
  have k8 : ¬ N < i1 := by omega
  have hrd0 : ∀ t : List UInt8, t.length ≤ 1000000 → Gives Tryd.prog 13 [.d (.str t)] (encR (readR t)) := fun t h => readA_ok t h
  cases off with
  | false =>
    obtain ⟨t, ht⟩ : ∃ t, A ++ x :: B = t := ⟨_, rfl⟩
    have htl : t.length = N := by rw [← ht, List.length_append, List.length_cons, hAl, hBl]; omega
    have hrd := hrd0 t (by omega)
    by_cases he : t = T
    · have hq : (t == T) = true := by simp [he]
      have hrr : readR t = some (per, l) := by rw [he, hrt]
      rw [hrr] at hrd
      simp only [encR] at hrd
      have hsm := same_ok per per l l (by omega) (by omega)
      have hss : sameB per l per l = true := by simp [sameB]
      rw [hss] at hsm
      refine Gives.enter tabOk Tryd.func5 rfl (by show 4 ≤ 114; decide) ?_
      simp only [Tryd.f5]
      have H1 := And.intro k2 (And.intro hN (And.intro hT0 (And.intro w1 (And.intro hi (And.intro hN0 (And.intro w2 (And.intro k3 (And.intro k4 (And.intro hc (And.intro hx (And.intro hA (And.intro hB (And.intro hAl (And.intro hBl (And.intro b1 (And.intro b2 (And.intro b3 (And.intro hBB (And.intro hiT (And.intro k8 (And.intro ht hq)))))))))))))))))))))
      refine qR (by simp -implicitDefEqProofs [u8s, H1] <;> rfl) ?_
      refine WpC.seq ?_
      refine WpC.region ?_
      refine WpO.run tabOk 1 (by simp -implicitDefEqProofs [u8s, H1] <;> first | exact ⟨rfl, rfl⟩ | rfl) ?_
      refine WpO.data (by simp) rfl (by simp -implicitDefEqProofs [u8s, H1] <;> rfl) (by simp -implicitDefEqProofs [u8s, H1] <;> rfl) (by simp -implicitDefEqProofs [u8s, H1] <;> rfl) call_9 (by simp) (hw) (by rfl) (by simp -implicitDefEqProofs [u8s, H1] <;> rfl) ?_
      refine WpO.run tabOk 5 (by simp -implicitDefEqProofs [u8s, H1] <;> first | exact ⟨rfl, rfl⟩ | rfl) ?_
      refine WpO.nil ?_
      refine WpC.seq ?_
      refine WpC.seq ?_
      refine WpC.region ?_
      refine WpO.run tabOk 5 (by simp -implicitDefEqProofs [u8s, H1] <;> first | exact ⟨rfl, rfl⟩ | rfl) ?_
      refine WpO.splitB 24 (by simp -implicitDefEqProofs [u8s, H1] <;> rfl) (by rfl) (fun g24 => ?_) (fun g24 => ?_)
      · try (exfalso; revert g24; simp; done)
        all_goals
          have g24' := g24; first | simp only [dT, dF] at g24' | try simp at g24'
          refine WpO.run tabOk 7 (by simp -implicitDefEqProofs [u8s, H1, g24] <;> first | exact ⟨rfl, rfl⟩ | rfl) ?_
          refine WpO.nil ?_
          refine WpC.condF (by simp -implicitDefEqProofs [u8s, H1, g24] <;> rfl) ?_
          refine WpC.skip ?_
          refine qR (by simp -implicitDefEqProofs [u8s, H1, g24] <;> rfl) ?_
          refine WpC.seq (WpC.drawn tabOk (by kernel_rfl) 1 (by simp) ?_)
          refine DrO.run (fz := []) 3 (by simp -implicitDefEqProofs [u8s, H1, g24] <;> first | exact ⟨rfl, rfl, rfl, rfl⟩ | rfl) ?_
          refine DrO.run (fz := []) 3 (by simp -implicitDefEqProofs [u8s, H1, g24] <;> first | exact ⟨rfl, rfl, rfl, rfl⟩ | rfl) ?_
          refine DrO.run (fz := []) 3 (by simp -implicitDefEqProofs [u8s, H1, g24] <;> first | exact ⟨rfl, rfl, rfl, rfl⟩ | rfl) ?_
          refine DrO.run (fz := []) 3 (by simp -implicitDefEqProofs [u8s, H1, g24] <;> first | exact ⟨rfl, rfl, rfl, rfl⟩ | rfl) ?_
          refine DrO.run (fz := []) 3 (by simp -implicitDefEqProofs [u8s, H1, g24] <;> first | exact ⟨rfl, rfl, rfl, rfl⟩ | rfl) ?_
          refine DrO.run (fz := []) 2 (by simp -implicitDefEqProofs [u8s, H1, g24] <;> first | exact ⟨rfl, rfl, rfl, rfl⟩ | rfl) ?_
          refine DrO.nil ⟨by kernel_rfl, ?_⟩
          refine WpC.seq ?_
          refine qR (by simp -implicitDefEqProofs [u8s, H1, g24] <;> rfl) ?_
          refine WpC.condF (by simp -implicitDefEqProofs [u8s, H1, g24] <;> rfl) ?_
          refine WpC.skip ?_
          refine WpC.seq ?_
          refine WpC.region ?_
          refine WpO.run tabOk 1 (by simp -implicitDefEqProofs [u8s, H1, g24] <;> first | exact ⟨rfl, rfl⟩ | rfl) ?_
          refine WpO.data (by simp) rfl (by simp -implicitDefEqProofs [u8s, H1, g24] <;> rfl) (by simp -implicitDefEqProofs [u8s, H1, g24] <;> rfl) (by simp -implicitDefEqProofs [u8s, H1, g24] <;> rfl) call_13 (by simp) (hrd) (by rfl) (by simp -implicitDefEqProofs [u8s, H1, g24] <;> rfl) ?_
          refine WpO.run tabOk 6 (by simp -implicitDefEqProofs [u8s, H1, g24] <;> first | exact ⟨rfl, rfl⟩ | rfl) ?_
          refine WpO.nil ?_
          refine WpC.seq ?_
          refine qR (by simp -implicitDefEqProofs [u8s, H1, g24] <;> rfl) ?_
          refine WpC.condT (by simp -implicitDefEqProofs [u8s, H1, g24] <;> rfl) ?_
          refine WpC.seq ?_
          refine WpC.drawn tabOk (by kernel_rfl) 0 (by simp) ?_
          refine DrO.run (fz := []) 3 (by simp -implicitDefEqProofs [u8s, H1, g24] <;> first | exact ⟨rfl, rfl, rfl, rfl⟩ | rfl) ?_
          refine DrO.splitB 83 (by simp -implicitDefEqProofs [u8s, H1, g24] <;> rfl) (by rfl) (fun g83 => ?_) (fun g83 => ?_)
          · try (exfalso; revert g83; simp; done)
            all_goals
              have g83' := g83; first | simp only [dT, dF] at g83' | try simp at g83'
              refine DrO.run (fz := []) 1 (by simp -implicitDefEqProofs [u8s, H1, g24, g83] <;> first | exact ⟨rfl, rfl, rfl, rfl⟩ | rfl) ?_
              refine DrO.data (by simp) rfl (by simp -implicitDefEqProofs [u8s, H1, g24, g83] <;> rfl) (by simp -implicitDefEqProofs [u8s, H1, g24, g83] <;> rfl) (by simp -implicitDefEqProofs [u8s, H1, g24, g83] <;> rfl) call_11 (hf) (by rfl) (by simp -implicitDefEqProofs [u8s, H1, g24, g83] <;> rfl) ?_
              refine DrO.run (fz := []) 1 (by simp -implicitDefEqProofs [u8s, H1, g24, g83] <;> first | exact ⟨rfl, rfl, rfl, rfl⟩ | rfl) ?_
              refine DrO.data (by simp) rfl (by simp -implicitDefEqProofs [u8s, H1, g24, g83] <;> rfl) (by simp -implicitDefEqProofs [u8s, H1, g24, g83] <;> rfl) (by simp -implicitDefEqProofs [u8s, H1, g24, g83] <;> rfl) call_11 (hf) (by rfl) (by simp -implicitDefEqProofs [u8s, H1, g24, g83] <;> rfl) ?_
              refine DrO.data (by simp) rfl (by simp -implicitDefEqProofs [u8s, H1, g24, g83] <;> rfl) (by simp -implicitDefEqProofs [u8s, H1, g24, g83] <;> rfl) (by simp -implicitDefEqProofs [u8s, H1, g24, g83] <;> rfl) call_15 (hsm) (by rfl) (by simp -implicitDefEqProofs [u8s, H1, g24, g83] <;> rfl) ?_
              refine DrO.run (fz := []) 2 (by simp -implicitDefEqProofs [u8s, H1, g24, g83] <;> first | exact ⟨rfl, rfl, rfl, rfl⟩ | rfl) ?_
              refine DrO.splitB 90 (by simp -implicitDefEqProofs [u8s, H1, g24, g83] <;> rfl) (by rfl) (fun g90 => ?_) (fun g90 => ?_)
              · try (exfalso; revert g90; simp; done)
                all_goals
                  have g90' := g90; first | simp only [dT, dF] at g90' | try simp at g90'
                  refine DrO.data (by simp) rfl (by simp -implicitDefEqProofs [u8s, H1, g24, g83, g90] <;> rfl) (by simp -implicitDefEqProofs [u8s, H1, g24, g83, g90] <;> rfl) (by simp -implicitDefEqProofs [u8s, H1, g24, g83, g90] <;> rfl) call_8 (awake_ok) (by rfl) (by simp -implicitDefEqProofs [u8s, H1, g24, g83, g90] <;> rfl) ?_
                  refine DrO.run (fz := []) 2 (by simp -implicitDefEqProofs [u8s, H1, g24, g83, g90] <;> first | exact ⟨rfl, rfl, rfl, rfl⟩ | rfl) ?_
                  refine DrO.nil ⟨by kernel_rfl, ?_⟩
                  refine WpC.ret ?_
                  try simp only [blockQ, seqQ]
                  refine retD_i (by simp -implicitDefEqProofs [u8s, H1, g24, g83, g90] <;> rfl) (by simp -implicitDefEqProofs [u8s, H1, g24, g83, g90] <;> rfl) ?_
                  simp -implicitDefEqProofs [u8s, H1, g24, g83, g90]
              · try (exfalso; revert g90; simp; done)
                all_goals
                  have g90' := g90; first | simp only [dT, dF] at g90' | try simp at g90'
                  refine DrO.run (fz := []) 3 (by simp -implicitDefEqProofs [u8s, H1, g24, g83, g90] <;> first | exact ⟨rfl, rfl, rfl, rfl⟩ | rfl) ?_
                  refine DrO.nil ⟨by kernel_rfl, ?_⟩
                  refine WpC.ret ?_
                  try simp only [blockQ, seqQ]
                  refine retD_i (by simp -implicitDefEqProofs [u8s, H1, g24, g83, g90] <;> rfl) (by simp -implicitDefEqProofs [u8s, H1, g24, g83, g90] <;> rfl) ?_
                  simp -implicitDefEqProofs [u8s, H1, g24, g83, g90]
          · try (exfalso; revert g83; simp; done)
            all_goals
              have g83' := g83; first | simp only [dT, dF] at g83' | try simp at g83'
              refine DrO.run (fz := []) 3 (by simp -implicitDefEqProofs [u8s, H1, g24, g83] <;> first | exact ⟨rfl, rfl, rfl, rfl⟩ | rfl) ?_
              refine DrO.run (fz := []) 3 (by simp -implicitDefEqProofs [u8s, H1, g24, g83] <;> first | exact ⟨rfl, rfl, rfl, rfl⟩ | rfl) ?_
              refine DrO.run (fz := []) 3 (by simp -implicitDefEqProofs [u8s, H1, g24, g83] <;> first | exact ⟨rfl, rfl, rfl, rfl⟩ | rfl) ?_
              refine DrO.run (fz := []) 1 (by simp -implicitDefEqProofs [u8s, H1, g24, g83] <;> first | exact ⟨rfl, rfl, rfl, rfl⟩ | rfl) ?_
              refine DrO.nil ⟨by kernel_rfl, ?_⟩
              refine WpC.ret ?_
              try simp only [blockQ, seqQ]
              refine retD_i (by simp -implicitDefEqProofs [u8s, H1, g24, g83] <;> rfl) (by simp -implicitDefEqProofs [u8s, H1, g24, g83] <;> rfl) ?_
              simp -implicitDefEqProofs [u8s, H1, g24, g83]
      · try (exfalso; revert g24; simp; done)
        all_goals
          have g24' := g24; first | simp only [dT, dF] at g24' | try simp at g24'
          refine WpO.run tabOk 4 (by simp -implicitDefEqProofs [u8s, H1, g24] <;> first | exact ⟨rfl, rfl⟩ | rfl) ?_
          refine WpO.splitB 28 (by simp -implicitDefEqProofs [u8s, H1, g24] <;> rfl) (by rfl) (fun g28 => ?_) (fun g28 => ?_)
          · try (exfalso; revert g28; simp; done)
            all_goals
              have g28' := g28; first | simp only [dT, dF] at g28' | try simp at g28'
              refine WpO.run tabOk 3 (by simp -implicitDefEqProofs [u8s, H1, g24, g28] <;> first | exact ⟨rfl, rfl⟩ | rfl) ?_
              refine WpO.nil ?_
              refine WpC.condF (by simp -implicitDefEqProofs [u8s, H1, g24, g28] <;> rfl) ?_
              refine WpC.skip ?_
              refine qR (by simp -implicitDefEqProofs [u8s, H1, g24, g28] <;> rfl) ?_
              refine WpC.seq (WpC.drawn tabOk (by kernel_rfl) 1 (by simp) ?_)
              refine DrO.run (fz := []) 3 (by simp -implicitDefEqProofs [u8s, H1, g24, g28] <;> first | exact ⟨rfl, rfl, rfl, rfl⟩ | rfl) ?_
              refine DrO.run (fz := []) 3 (by simp -implicitDefEqProofs [u8s, H1, g24, g28] <;> first | exact ⟨rfl, rfl, rfl, rfl⟩ | rfl) ?_
              refine DrO.run (fz := []) 3 (by simp -implicitDefEqProofs [u8s, H1, g24, g28] <;> first | exact ⟨rfl, rfl, rfl, rfl⟩ | rfl) ?_
              refine DrO.run (fz := []) 3 (by simp -implicitDefEqProofs [u8s, H1, g24, g28] <;> first | exact ⟨rfl, rfl, rfl, rfl⟩ | rfl) ?_
              refine DrO.run (fz := []) 3 (by simp -implicitDefEqProofs [u8s, H1, g24, g28] <;> first | exact ⟨rfl, rfl, rfl, rfl⟩ | rfl) ?_
              refine DrO.run (fz := []) 2 (by simp -implicitDefEqProofs [u8s, H1, g24, g28] <;> first | exact ⟨rfl, rfl, rfl, rfl⟩ | rfl) ?_
              refine DrO.nil ⟨by kernel_rfl, ?_⟩
              refine WpC.seq ?_
              refine qR (by simp -implicitDefEqProofs [u8s, H1, g24, g28] <;> rfl) ?_
              refine WpC.condF (by simp -implicitDefEqProofs [u8s, H1, g24, g28] <;> rfl) ?_
              refine WpC.skip ?_
              refine WpC.seq ?_
              refine WpC.region ?_
              refine WpO.run tabOk 1 (by simp -implicitDefEqProofs [u8s, H1, g24, g28] <;> first | exact ⟨rfl, rfl⟩ | rfl) ?_
              refine WpO.data (by simp) rfl (by simp -implicitDefEqProofs [u8s, H1, g24, g28] <;> rfl) (by simp -implicitDefEqProofs [u8s, H1, g24, g28] <;> rfl) (by simp -implicitDefEqProofs [u8s, H1, g24, g28] <;> rfl) call_13 (by simp) (hrd) (by rfl) (by simp -implicitDefEqProofs [u8s, H1, g24, g28] <;> rfl) ?_
              refine WpO.run tabOk 6 (by simp -implicitDefEqProofs [u8s, H1, g24, g28] <;> first | exact ⟨rfl, rfl⟩ | rfl) ?_
              refine WpO.nil ?_
              refine WpC.seq ?_
              refine qR (by simp -implicitDefEqProofs [u8s, H1, g24, g28] <;> rfl) ?_
              refine WpC.condT (by simp -implicitDefEqProofs [u8s, H1, g24, g28] <;> rfl) ?_
              refine WpC.seq ?_
              refine WpC.drawn tabOk (by kernel_rfl) 0 (by simp) ?_
              refine DrO.run (fz := []) 3 (by simp -implicitDefEqProofs [u8s, H1, g24, g28] <;> first | exact ⟨rfl, rfl, rfl, rfl⟩ | rfl) ?_
              refine DrO.splitB 83 (by simp -implicitDefEqProofs [u8s, H1, g24, g28] <;> rfl) (by rfl) (fun g83 => ?_) (fun g83 => ?_)
              · try (exfalso; revert g83; simp; done)
                all_goals
                  have g83' := g83; first | simp only [dT, dF] at g83' | try simp at g83'
                  refine DrO.run (fz := []) 1 (by simp -implicitDefEqProofs [u8s, H1, g24, g28, g83] <;> first | exact ⟨rfl, rfl, rfl, rfl⟩ | rfl) ?_
                  refine DrO.data (by simp) rfl (by simp -implicitDefEqProofs [u8s, H1, g24, g28, g83] <;> rfl) (by simp -implicitDefEqProofs [u8s, H1, g24, g28, g83] <;> rfl) (by simp -implicitDefEqProofs [u8s, H1, g24, g28, g83] <;> rfl) call_11 (hf) (by rfl) (by simp -implicitDefEqProofs [u8s, H1, g24, g28, g83] <;> rfl) ?_
                  refine DrO.run (fz := []) 1 (by simp -implicitDefEqProofs [u8s, H1, g24, g28, g83] <;> first | exact ⟨rfl, rfl, rfl, rfl⟩ | rfl) ?_
                  refine DrO.data (by simp) rfl (by simp -implicitDefEqProofs [u8s, H1, g24, g28, g83] <;> rfl) (by simp -implicitDefEqProofs [u8s, H1, g24, g28, g83] <;> rfl) (by simp -implicitDefEqProofs [u8s, H1, g24, g28, g83] <;> rfl) call_11 (hf) (by rfl) (by simp -implicitDefEqProofs [u8s, H1, g24, g28, g83] <;> rfl) ?_
                  refine DrO.data (by simp) rfl (by simp -implicitDefEqProofs [u8s, H1, g24, g28, g83] <;> rfl) (by simp -implicitDefEqProofs [u8s, H1, g24, g28, g83] <;> rfl) (by simp -implicitDefEqProofs [u8s, H1, g24, g28, g83] <;> rfl) call_15 (hsm) (by rfl) (by simp -implicitDefEqProofs [u8s, H1, g24, g28, g83] <;> rfl) ?_
                  refine DrO.run (fz := []) 2 (by simp -implicitDefEqProofs [u8s, H1, g24, g28, g83] <;> first | exact ⟨rfl, rfl, rfl, rfl⟩ | rfl) ?_
                  refine DrO.splitB 90 (by simp -implicitDefEqProofs [u8s, H1, g24, g28, g83] <;> rfl) (by rfl) (fun g90 => ?_) (fun g90 => ?_)
                  · try (exfalso; revert g90; simp; done)
                    all_goals
                      have g90' := g90; first | simp only [dT, dF] at g90' | try simp at g90'
                      refine DrO.data (by simp) rfl (by simp -implicitDefEqProofs [u8s, H1, g24, g28, g83, g90] <;> rfl) (by simp -implicitDefEqProofs [u8s, H1, g24, g28, g83, g90] <;> rfl) (by simp -implicitDefEqProofs [u8s, H1, g24, g28, g83, g90] <;> rfl) call_8 (awake_ok) (by rfl) (by simp -implicitDefEqProofs [u8s, H1, g24, g28, g83, g90] <;> rfl) ?_
                      refine DrO.run (fz := []) 2 (by simp -implicitDefEqProofs [u8s, H1, g24, g28, g83, g90] <;> first | exact ⟨rfl, rfl, rfl, rfl⟩ | rfl) ?_
                      refine DrO.nil ⟨by kernel_rfl, ?_⟩
                      refine WpC.ret ?_
                      try simp only [blockQ, seqQ]
                      refine retD_i (by simp -implicitDefEqProofs [u8s, H1, g24, g28, g83, g90] <;> rfl) (by simp -implicitDefEqProofs [u8s, H1, g24, g28, g83, g90] <;> rfl) ?_
                      simp -implicitDefEqProofs [u8s, H1, g24, g28, g83, g90]
                  · try (exfalso; revert g90; simp; done)
                    all_goals
                      have g90' := g90; first | simp only [dT, dF] at g90' | try simp at g90'
                      refine DrO.run (fz := []) 3 (by simp -implicitDefEqProofs [u8s, H1, g24, g28, g83, g90] <;> first | exact ⟨rfl, rfl, rfl, rfl⟩ | rfl) ?_
                      refine DrO.nil ⟨by kernel_rfl, ?_⟩
                      refine WpC.ret ?_
                      try simp only [blockQ, seqQ]
                      refine retD_i (by simp -implicitDefEqProofs [u8s, H1, g24, g28, g83, g90] <;> rfl) (by simp -implicitDefEqProofs [u8s, H1, g24, g28, g83, g90] <;> rfl) ?_
                      simp -implicitDefEqProofs [u8s, H1, g24, g28, g83, g90]
              · try (exfalso; revert g83; simp; done)
                all_goals
                  have g83' := g83; first | simp only [dT, dF] at g83' | try simp at g83'
                  refine DrO.run (fz := []) 3 (by simp -implicitDefEqProofs [u8s, H1, g24, g28, g83] <;> first | exact ⟨rfl, rfl, rfl, rfl⟩ | rfl) ?_
                  refine DrO.run (fz := []) 3 (by simp -implicitDefEqProofs [u8s, H1, g24, g28, g83] <;> first | exact ⟨rfl, rfl, rfl, rfl⟩ | rfl) ?_
                  refine DrO.run (fz := []) 3 (by simp -implicitDefEqProofs [u8s, H1, g24, g28, g83] <;> first | exact ⟨rfl, rfl, rfl, rfl⟩ | rfl) ?_
                  refine DrO.run (fz := []) 1 (by simp -implicitDefEqProofs [u8s, H1, g24, g28, g83] <;> first | exact ⟨rfl, rfl, rfl, rfl⟩ | rfl) ?_
                  refine DrO.nil ⟨by kernel_rfl, ?_⟩
                  refine WpC.ret ?_
                  try simp only [blockQ, seqQ]
                  refine retD_i (by simp -implicitDefEqProofs [u8s, H1, g24, g28, g83] <;> rfl) (by simp -implicitDefEqProofs [u8s, H1, g24, g28, g83] <;> rfl) ?_
                  simp -implicitDefEqProofs [u8s, H1, g24, g28, g83]
          · try (exfalso; revert g28; simp; done)
            all_goals
              have g28' := g28; first | simp only [dT, dF] at g28' | try simp at g28'
              refine WpO.run tabOk 3 (by simp -implicitDefEqProofs [u8s, H1, g24, g28] <;> first | exact ⟨rfl, rfl⟩ | rfl) ?_
              refine WpO.nil ?_
              refine WpC.condF (by simp -implicitDefEqProofs [u8s, H1, g24, g28] <;> rfl) ?_
              refine WpC.skip ?_
              refine qR (by simp -implicitDefEqProofs [u8s, H1, g24, g28] <;> rfl) ?_
              refine WpC.seq (WpC.drawn tabOk (by kernel_rfl) 1 (by simp) ?_)
              refine DrO.run (fz := []) 3 (by simp -implicitDefEqProofs [u8s, H1, g24, g28] <;> first | exact ⟨rfl, rfl, rfl, rfl⟩ | rfl) ?_
              refine DrO.run (fz := []) 3 (by simp -implicitDefEqProofs [u8s, H1, g24, g28] <;> first | exact ⟨rfl, rfl, rfl, rfl⟩ | rfl) ?_
              refine DrO.run (fz := []) 3 (by simp -implicitDefEqProofs [u8s, H1, g24, g28] <;> first | exact ⟨rfl, rfl, rfl, rfl⟩ | rfl) ?_
              refine DrO.run (fz := []) 3 (by simp -implicitDefEqProofs [u8s, H1, g24, g28] <;> first | exact ⟨rfl, rfl, rfl, rfl⟩ | rfl) ?_
              refine DrO.run (fz := []) 3 (by simp -implicitDefEqProofs [u8s, H1, g24, g28] <;> first | exact ⟨rfl, rfl, rfl, rfl⟩ | rfl) ?_
              refine DrO.run (fz := []) 2 (by simp -implicitDefEqProofs [u8s, H1, g24, g28] <;> first | exact ⟨rfl, rfl, rfl, rfl⟩ | rfl) ?_
              refine DrO.nil ⟨by kernel_rfl, ?_⟩
              refine WpC.seq ?_
              refine qR (by simp -implicitDefEqProofs [u8s, H1, g24, g28] <;> rfl) ?_
              refine WpC.condF (by simp -implicitDefEqProofs [u8s, H1, g24, g28] <;> rfl) ?_
              refine WpC.skip ?_
              refine WpC.seq ?_
              refine WpC.region ?_
              refine WpO.run tabOk 1 (by simp -implicitDefEqProofs [u8s, H1, g24, g28] <;> first | exact ⟨rfl, rfl⟩ | rfl) ?_
              refine WpO.data (by simp) rfl (by simp -implicitDefEqProofs [u8s, H1, g24, g28] <;> rfl) (by simp -implicitDefEqProofs [u8s, H1, g24, g28] <;> rfl) (by simp -implicitDefEqProofs [u8s, H1, g24, g28] <;> rfl) call_13 (by simp) (hrd) (by rfl) (by simp -implicitDefEqProofs [u8s, H1, g24, g28] <;> rfl) ?_
              refine WpO.run tabOk 6 (by simp -implicitDefEqProofs [u8s, H1, g24, g28] <;> first | exact ⟨rfl, rfl⟩ | rfl) ?_
              refine WpO.nil ?_
              refine WpC.seq ?_
              refine qR (by simp -implicitDefEqProofs [u8s, H1, g24, g28] <;> rfl) ?_
              refine WpC.condT (by simp -implicitDefEqProofs [u8s, H1, g24, g28] <;> rfl) ?_
              refine WpC.seq ?_
              refine WpC.drawn tabOk (by kernel_rfl) 0 (by simp) ?_
              refine DrO.run (fz := []) 3 (by simp -implicitDefEqProofs [u8s, H1, g24, g28] <;> first | exact ⟨rfl, rfl, rfl, rfl⟩ | rfl) ?_
              refine DrO.splitB 83 (by simp -implicitDefEqProofs [u8s, H1, g24, g28] <;> rfl) (by rfl) (fun g83 => ?_) (fun g83 => ?_)
              · try (exfalso; revert g83; simp; done)
                all_goals
                  have g83' := g83; first | simp only [dT, dF] at g83' | try simp at g83'
                  refine DrO.run (fz := []) 1 (by simp -implicitDefEqProofs [u8s, H1, g24, g28, g83] <;> first | exact ⟨rfl, rfl, rfl, rfl⟩ | rfl) ?_
                  refine DrO.data (by simp) rfl (by simp -implicitDefEqProofs [u8s, H1, g24, g28, g83] <;> rfl) (by simp -implicitDefEqProofs [u8s, H1, g24, g28, g83] <;> rfl) (by simp -implicitDefEqProofs [u8s, H1, g24, g28, g83] <;> rfl) call_11 (hf) (by rfl) (by simp -implicitDefEqProofs [u8s, H1, g24, g28, g83] <;> rfl) ?_
                  refine DrO.run (fz := []) 1 (by simp -implicitDefEqProofs [u8s, H1, g24, g28, g83] <;> first | exact ⟨rfl, rfl, rfl, rfl⟩ | rfl) ?_
                  refine DrO.data (by simp) rfl (by simp -implicitDefEqProofs [u8s, H1, g24, g28, g83] <;> rfl) (by simp -implicitDefEqProofs [u8s, H1, g24, g28, g83] <;> rfl) (by simp -implicitDefEqProofs [u8s, H1, g24, g28, g83] <;> rfl) call_11 (hf) (by rfl) (by simp -implicitDefEqProofs [u8s, H1, g24, g28, g83] <;> rfl) ?_
                  refine DrO.data (by simp) rfl (by simp -implicitDefEqProofs [u8s, H1, g24, g28, g83] <;> rfl) (by simp -implicitDefEqProofs [u8s, H1, g24, g28, g83] <;> rfl) (by simp -implicitDefEqProofs [u8s, H1, g24, g28, g83] <;> rfl) call_15 (hsm) (by rfl) (by simp -implicitDefEqProofs [u8s, H1, g24, g28, g83] <;> rfl) ?_
                  refine DrO.run (fz := []) 2 (by simp -implicitDefEqProofs [u8s, H1, g24, g28, g83] <;> first | exact ⟨rfl, rfl, rfl, rfl⟩ | rfl) ?_
                  refine DrO.splitB 90 (by simp -implicitDefEqProofs [u8s, H1, g24, g28, g83] <;> rfl) (by rfl) (fun g90 => ?_) (fun g90 => ?_)
                  · try (exfalso; revert g90; simp; done)
                    all_goals
                      have g90' := g90; first | simp only [dT, dF] at g90' | try simp at g90'
                      refine DrO.data (by simp) rfl (by simp -implicitDefEqProofs [u8s, H1, g24, g28, g83, g90] <;> rfl) (by simp -implicitDefEqProofs [u8s, H1, g24, g28, g83, g90] <;> rfl) (by simp -implicitDefEqProofs [u8s, H1, g24, g28, g83, g90] <;> rfl) call_8 (awake_ok) (by rfl) (by simp -implicitDefEqProofs [u8s, H1, g24, g28, g83, g90] <;> rfl) ?_
                      refine DrO.run (fz := []) 2 (by simp -implicitDefEqProofs [u8s, H1, g24, g28, g83, g90] <;> first | exact ⟨rfl, rfl, rfl, rfl⟩ | rfl) ?_
                      refine DrO.nil ⟨by kernel_rfl, ?_⟩
                      refine WpC.ret ?_
                      try simp only [blockQ, seqQ]
                      refine retD_i (by simp -implicitDefEqProofs [u8s, H1, g24, g28, g83, g90] <;> rfl) (by simp -implicitDefEqProofs [u8s, H1, g24, g28, g83, g90] <;> rfl) ?_
                      simp -implicitDefEqProofs [u8s, H1, g24, g28, g83, g90]
                  · try (exfalso; revert g90; simp; done)
                    all_goals
                      have g90' := g90; first | simp only [dT, dF] at g90' | try simp at g90'
                      refine DrO.run (fz := []) 3 (by simp -implicitDefEqProofs [u8s, H1, g24, g28, g83, g90] <;> first | exact ⟨rfl, rfl, rfl, rfl⟩ | rfl) ?_
                      refine DrO.nil ⟨by kernel_rfl, ?_⟩
                      refine WpC.ret ?_
                      try simp only [blockQ, seqQ]
                      refine retD_i (by simp -implicitDefEqProofs [u8s, H1, g24, g28, g83, g90] <;> rfl) (by simp -implicitDefEqProofs [u8s, H1, g24, g28, g83, g90] <;> rfl) ?_
                      simp -implicitDefEqProofs [u8s, H1, g24, g28, g83, g90]
              · try (exfalso; revert g83; simp; done)
                all_goals
                  have g83' := g83; first | simp only [dT, dF] at g83' | try simp at g83'
                  refine DrO.run (fz := []) 3 (by simp -implicitDefEqProofs [u8s, H1, g24, g28, g83] <;> first | exact ⟨rfl, rfl, rfl, rfl⟩ | rfl) ?_
                  refine DrO.run (fz := []) 3 (by simp -implicitDefEqProofs [u8s, H1, g24, g28, g83] <;> first | exact ⟨rfl, rfl, rfl, rfl⟩ | rfl) ?_
                  refine DrO.run (fz := []) 3 (by simp -implicitDefEqProofs [u8s, H1, g24, g28, g83] <;> first | exact ⟨rfl, rfl, rfl, rfl⟩ | rfl) ?_
                  refine DrO.run (fz := []) 1 (by simp -implicitDefEqProofs [u8s, H1, g24, g28, g83] <;> first | exact ⟨rfl, rfl, rfl, rfl⟩ | rfl) ?_
                  refine DrO.nil ⟨by kernel_rfl, ?_⟩
                  refine WpC.ret ?_
                  try simp only [blockQ, seqQ]
                  refine retD_i (by simp -implicitDefEqProofs [u8s, H1, g24, g28, g83] <;> rfl) (by simp -implicitDefEqProofs [u8s, H1, g24, g28, g83] <;> rfl) ?_
                  simp -implicitDefEqProofs [u8s, H1, g24, g28, g83]
    · have hq : (t == T) = false := by simp [he]
      cases hrr : readR t with
      | none =>
        rw [hrr] at hrd
        simp only [encR] at hrd
        refine Gives.enter tabOk Tryd.func5 rfl (by show 4 ≤ 114; decide) ?_
        simp only [Tryd.f5]
        have H1 := And.intro k2 (And.intro hN (And.intro hT0 (And.intro w1 (And.intro hi (And.intro hN0 (And.intro w2 (And.intro k3 (And.intro k4 (And.intro hc (And.intro hx (And.intro hA (And.intro hB (And.intro hAl (And.intro hBl (And.intro b1 (And.intro b2 (And.intro b3 (And.intro hBB (And.intro hiT (And.intro k8 (And.intro ht hq)))))))))))))))))))))
        refine qR (by simp -implicitDefEqProofs [u8s, H1] <;> rfl) ?_
        refine WpC.seq ?_
        refine WpC.region ?_
        refine WpO.run tabOk 1 (by simp -implicitDefEqProofs [u8s, H1] <;> first | exact ⟨rfl, rfl⟩ | rfl) ?_
        refine WpO.data (by simp) rfl (by simp -implicitDefEqProofs [u8s, H1] <;> rfl) (by simp -implicitDefEqProofs [u8s, H1] <;> rfl) (by simp -implicitDefEqProofs [u8s, H1] <;> rfl) call_9 (by simp) (hw) (by rfl) (by simp -implicitDefEqProofs [u8s, H1] <;> rfl) ?_
        refine WpO.run tabOk 5 (by simp -implicitDefEqProofs [u8s, H1] <;> first | exact ⟨rfl, rfl⟩ | rfl) ?_
        refine WpO.nil ?_
        refine WpC.seq ?_
        refine WpC.seq ?_
        refine WpC.region ?_
        refine WpO.run tabOk 5 (by simp -implicitDefEqProofs [u8s, H1] <;> first | exact ⟨rfl, rfl⟩ | rfl) ?_
        refine WpO.splitB 24 (by simp -implicitDefEqProofs [u8s, H1] <;> rfl) (by rfl) (fun g24 => ?_) (fun g24 => ?_)
        · try (exfalso; revert g24; simp; done)
          all_goals
            have g24' := g24; first | simp only [dT, dF] at g24' | try simp at g24'
            refine WpO.run tabOk 7 (by simp -implicitDefEqProofs [u8s, H1, g24] <;> first | exact ⟨rfl, rfl⟩ | rfl) ?_
            refine WpO.nil ?_
            refine WpC.condF (by simp -implicitDefEqProofs [u8s, H1, g24] <;> rfl) ?_
            refine WpC.skip ?_
            refine qR (by simp -implicitDefEqProofs [u8s, H1, g24] <;> rfl) ?_
            refine WpC.seq (WpC.drawn tabOk (by kernel_rfl) 1 (by simp) ?_)
            refine DrO.run (fz := []) 3 (by simp -implicitDefEqProofs [u8s, H1, g24] <;> first | exact ⟨rfl, rfl, rfl, rfl⟩ | rfl) ?_
            refine DrO.run (fz := []) 3 (by simp -implicitDefEqProofs [u8s, H1, g24] <;> first | exact ⟨rfl, rfl, rfl, rfl⟩ | rfl) ?_
            refine DrO.run (fz := []) 3 (by simp -implicitDefEqProofs [u8s, H1, g24] <;> first | exact ⟨rfl, rfl, rfl, rfl⟩ | rfl) ?_
            refine DrO.run (fz := []) 3 (by simp -implicitDefEqProofs [u8s, H1, g24] <;> first | exact ⟨rfl, rfl, rfl, rfl⟩ | rfl) ?_
            refine DrO.run (fz := []) 3 (by simp -implicitDefEqProofs [u8s, H1, g24] <;> first | exact ⟨rfl, rfl, rfl, rfl⟩ | rfl) ?_
            refine DrO.run (fz := []) 2 (by simp -implicitDefEqProofs [u8s, H1, g24] <;> first | exact ⟨rfl, rfl, rfl, rfl⟩ | rfl) ?_
            refine DrO.nil ⟨by kernel_rfl, ?_⟩
            refine WpC.seq ?_
            refine qR (by simp -implicitDefEqProofs [u8s, H1, g24] <;> rfl) ?_
            refine WpC.condF (by simp -implicitDefEqProofs [u8s, H1, g24] <;> rfl) ?_
            refine WpC.skip ?_
            refine WpC.seq ?_
            refine WpC.region ?_
            refine WpO.run tabOk 1 (by simp -implicitDefEqProofs [u8s, H1, g24] <;> first | exact ⟨rfl, rfl⟩ | rfl) ?_
            refine WpO.data (by simp) rfl (by simp -implicitDefEqProofs [u8s, H1, g24] <;> rfl) (by simp -implicitDefEqProofs [u8s, H1, g24] <;> rfl) (by simp -implicitDefEqProofs [u8s, H1, g24] <;> rfl) call_13 (by simp) (hrd) (by rfl) (by simp -implicitDefEqProofs [u8s, H1, g24] <;> rfl) ?_
            refine WpO.run tabOk 6 (by simp -implicitDefEqProofs [u8s, H1, g24] <;> first | exact ⟨rfl, rfl⟩ | rfl) ?_
            refine WpO.nil ?_
            refine WpC.seq ?_
            refine qR (by simp -implicitDefEqProofs [u8s, H1, g24] <;> rfl) ?_
            refine WpC.condF (by simp -implicitDefEqProofs [u8s, H1, g24] <;> rfl) ?_
            refine WpC.skip ?_
            refine WpC.seq ?_
            refine WpC.drawn tabOk (by kernel_rfl) 0 (by simp) ?_
            refine DrO.run (fz := []) 3 (by simp -implicitDefEqProofs [u8s, H1, g24] <;> first | exact ⟨rfl, rfl, rfl, rfl⟩ | rfl) ?_
            refine DrO.splitB 95 (by simp -implicitDefEqProofs [u8s, H1, g24] <;> rfl) (by rfl) (fun g95 => ?_) (fun g95 => ?_)
            · try (exfalso; revert g95; simp; done)
              all_goals
                have g95' := g95; first | simp only [dT, dF] at g95' | try simp at g95'
                refine DrO.run (fz := []) 3 (by simp -implicitDefEqProofs [u8s, H1, g24, g95] <;> first | exact ⟨rfl, rfl, rfl, rfl⟩ | rfl) ?_
                refine DrO.run (fz := []) 3 (by simp -implicitDefEqProofs [u8s, H1, g24, g95] <;> first | exact ⟨rfl, rfl, rfl, rfl⟩ | rfl) ?_
                refine DrO.run (fz := []) 3 (by simp -implicitDefEqProofs [u8s, H1, g24, g95] <;> first | exact ⟨rfl, rfl, rfl, rfl⟩ | rfl) ?_
                refine DrO.run (fz := []) 3 (by simp -implicitDefEqProofs [u8s, H1, g24, g95] <;> first | exact ⟨rfl, rfl, rfl, rfl⟩ | rfl) ?_
                refine DrO.run (fz := []) 3 (by simp -implicitDefEqProofs [u8s, H1, g24, g95] <;> first | exact ⟨rfl, rfl, rfl, rfl⟩ | rfl) ?_
                refine DrO.run (fz := []) 1 (by simp -implicitDefEqProofs [u8s, H1, g24, g95] <;> first | exact ⟨rfl, rfl, rfl, rfl⟩ | rfl) ?_
                refine DrO.data (by simp) rfl (by simp -implicitDefEqProofs [u8s, H1, g24, g95] <;> rfl) (by simp -implicitDefEqProofs [u8s, H1, g24, g95] <;> rfl) (by simp -implicitDefEqProofs [u8s, H1, g24, g95] <;> rfl) call_8 (awake_ok) (by rfl) (by simp -implicitDefEqProofs [u8s, H1, g24, g95] <;> rfl) ?_
                refine DrO.run (fz := []) 2 (by simp -implicitDefEqProofs [u8s, H1, g24, g95] <;> first | exact ⟨rfl, rfl, rfl, rfl⟩ | rfl) ?_
                refine DrO.nil ⟨by kernel_rfl, ?_⟩
                refine WpC.ret ?_
                try simp only [blockQ, seqQ]
                refine retD_i (by simp -implicitDefEqProofs [u8s, H1, g24, g95] <;> rfl) (by simp -implicitDefEqProofs [u8s, H1, g24, g95] <;> rfl) ?_
                simp -implicitDefEqProofs [u8s, H1, g24, g95]
            · try (exfalso; revert g95; simp; done)
              all_goals
                have g95' := g95; first | simp only [dT, dF] at g95' | try simp at g95'
                refine DrO.run (fz := []) 3 (by simp -implicitDefEqProofs [u8s, H1, g24, g95] <;> first | exact ⟨rfl, rfl, rfl, rfl⟩ | rfl) ?_
                refine DrO.splitB 98 (by simp -implicitDefEqProofs [u8s, H1, g24, g95] <;> rfl) (by rfl) (fun g98 => ?_) (fun g98 => ?_)
                · try (exfalso; revert g98; simp; done)
                  all_goals
                    have g98' := g98; first | simp only [dT, dF] at g98' | try simp at g98'
                    refine DrO.run (fz := []) 3 (by simp -implicitDefEqProofs [u8s, H1, g24, g95, g98] <;> first | exact ⟨rfl, rfl, rfl, rfl⟩ | rfl) ?_
                    refine DrO.run (fz := []) 1 (by simp -implicitDefEqProofs [u8s, H1, g24, g95, g98] <;> first | exact ⟨rfl, rfl, rfl, rfl⟩ | rfl) ?_
                    refine DrO.splitB 102 (by simp -implicitDefEqProofs [u8s, H1, g24, g95, g98] <;> rfl) (by rfl) (fun g102 => ?_) (fun g102 => ?_)
                    · try (exfalso; revert g102; simp; done)
                      all_goals
                        have g102' := g102; first | simp only [dT, dF] at g102' | try simp at g102'
                        refine DrO.run (fz := []) 1 (by simp -implicitDefEqProofs [u8s, H1, g24, g95, g98, g102] <;> first | exact ⟨rfl, rfl, rfl, rfl⟩ | rfl) ?_
                        contradiction
                        refine DrO.run (fz := []) 1 (by simp -implicitDefEqProofs [u8s, H1, g24, g95, g98, g102] <;> first | exact ⟨rfl, rfl, rfl, rfl⟩ | rfl) ?_
                        contradiction
                        contradiction
                        refine DrO.run (fz := []) 3 (by simp -implicitDefEqProofs [u8s, H1, g24, g95, g98, g102] <;> first | exact ⟨rfl, rfl, rfl, rfl⟩ | rfl) ?_
                        refine DrO.run (fz := []) 1 (by simp -implicitDefEqProofs [u8s, H1, g24, g95, g98, g102] <;> first | exact ⟨rfl, rfl, rfl, rfl⟩ | rfl) ?_
                        refine DrO.splitB 111 (by simp -implicitDefEqProofs [u8s, H1, g24, g95, g98, g102] <;> rfl) (by rfl) (fun g111 => ?_) (fun g111 => ?_)
                        · try (exfalso; revert g111; simp; done)
                          all_goals
                            have g111' := g111; first | simp only [dT, dF] at g111' | try simp at g111'
                            refine DrO.data (by simp) rfl (by simp -implicitDefEqProofs [u8s, H1, g24, g95, g98, g102, g111] <;> rfl) (by simp -implicitDefEqProofs [u8s, H1, g24, g95, g98, g102, g111] <;> rfl) (by simp -implicitDefEqProofs [u8s, H1, g24, g95, g98, g102, g111] <;> rfl) call_8 (awake_ok) (by rfl) (by simp -implicitDefEqProofs [u8s, H1, g24, g95, g98, g102, g111] <;> rfl) ?_
                            refine DrO.run (fz := []) 2 (by simp -implicitDefEqProofs [u8s, H1, g24, g95, g98, g102, g111] <;> first | exact ⟨rfl, rfl, rfl, rfl⟩ | rfl) ?_
                            refine DrO.nil ⟨by kernel_rfl, ?_⟩
                            refine WpC.ret ?_
                            try simp only [blockQ, seqQ]
                            refine retD_i (by simp -implicitDefEqProofs [u8s, H1, g24, g95, g98, g102, g111] <;> rfl) (by simp -implicitDefEqProofs [u8s, H1, g24, g95, g98, g102, g111] <;> rfl) ?_
                            simp -implicitDefEqProofs [u8s, H1, g24, g95, g98, g102, g111]
                        · try (exfalso; revert g111; simp; done)
                          all_goals
                            have g111' := g111; first | simp only [dT, dF] at g111' | try simp at g111'
                            refine DrO.run (fz := []) 3 (by simp -implicitDefEqProofs [u8s, H1, g24, g95, g98, g102, g111] <;> first | exact ⟨rfl, rfl, rfl, rfl⟩ | rfl) ?_
                            refine DrO.nil ⟨by kernel_rfl, ?_⟩
                            refine WpC.ret ?_
                            try simp only [blockQ, seqQ]
                            refine retD_i (by simp -implicitDefEqProofs [u8s, H1, g24, g95, g98, g102, g111] <;> rfl) (by simp -implicitDefEqProofs [u8s, H1, g24, g95, g98, g102, g111] <;> rfl) ?_
                            simp -implicitDefEqProofs [u8s, H1, g24, g95, g98, g102, g111]
                    · try (exfalso; revert g102; simp; done)
                      all_goals
                        have g102' := g102; first | simp only [dT, dF] at g102' | try simp at g102'
                        refine DrO.run (fz := []) 3 (by simp -implicitDefEqProofs [u8s, H1, g24, g95, g98, g102] <;> first | exact ⟨rfl, rfl, rfl, rfl⟩ | rfl) ?_
                        refine DrO.run (fz := []) 3 (by simp -implicitDefEqProofs [u8s, H1, g24, g95, g98, g102] <;> first | exact ⟨rfl, rfl, rfl, rfl⟩ | rfl) ?_
                        refine DrO.run (fz := []) 3 (by simp -implicitDefEqProofs [u8s, H1, g24, g95, g98, g102] <;> first | exact ⟨rfl, rfl, rfl, rfl⟩ | rfl) ?_
                        refine DrO.run (fz := []) 3 (by simp -implicitDefEqProofs [u8s, H1, g24, g95, g98, g102] <;> first | exact ⟨rfl, rfl, rfl, rfl⟩ | rfl) ?_
                        refine DrO.nil ⟨by kernel_rfl, ?_⟩
                        refine WpC.ret ?_
                        try simp only [blockQ, seqQ]
                        refine retD_i (by simp -implicitDefEqProofs [u8s, H1, g24, g95, g98, g102] <;> rfl) (by simp -implicitDefEqProofs [u8s, H1, g24, g95, g98, g102] <;> rfl) ?_
                        simp -implicitDefEqProofs [u8s, H1, g24, g95, g98, g102]
                · try (exfalso; revert g98; simp; done)
                  all_goals
                    have g98' := g98; first | simp only [dT, dF] at g98' | try simp at g98'
                    refine DrO.run (fz := []) 3 (by simp -implicitDefEqProofs [u8s, H1, g24, g95, g98] <;> first | exact ⟨rfl, rfl, rfl, rfl⟩ | rfl) ?_
                    refine DrO.run (fz := []) 3 (by simp -implicitDefEqProofs [u8s, H1, g24, g95, g98] <;> first | exact ⟨rfl, rfl, rfl, rfl⟩ | rfl) ?_
                    refine DrO.run (fz := []) 3 (by simp -implicitDefEqProofs [u8s, H1, g24, g95, g98] <;> first | exact ⟨rfl, rfl, rfl, rfl⟩ | rfl) ?_
                    refine DrO.run (fz := []) 3 (by simp -implicitDefEqProofs [u8s, H1, g24, g95, g98] <;> first | exact ⟨rfl, rfl, rfl, rfl⟩ | rfl) ?_
                    refine DrO.run (fz := []) 3 (by simp -implicitDefEqProofs [u8s, H1, g24, g95, g98] <;> first | exact ⟨rfl, rfl, rfl, rfl⟩ | rfl) ?_
                    refine DrO.run (fz := []) 1 (by simp -implicitDefEqProofs [u8s, H1, g24, g95, g98] <;> first | exact ⟨rfl, rfl, rfl, rfl⟩ | rfl) ?_
                    refine DrO.nil ⟨by kernel_rfl, ?_⟩
                    refine WpC.ret ?_
                    try simp only [blockQ, seqQ]
                    refine retD_i (by simp -implicitDefEqProofs [u8s, H1, g24, g95, g98] <;> rfl) (by simp -implicitDefEqProofs [u8s, H1, g24, g95, g98] <;> rfl) ?_
                    simp -implicitDefEqProofs [u8s, H1, g24, g95, g98]
        · try (exfalso; revert g24; simp; done)
          all_goals
            have g24' := g24; first | simp only [dT, dF] at g24' | try simp at g24'
            refine WpO.run tabOk 4 (by simp -implicitDefEqProofs [u8s, H1, g24] <;> first | exact ⟨rfl, rfl⟩ | rfl) ?_
            refine WpO.splitB 28 (by simp -implicitDefEqProofs [u8s, H1, g24] <;> rfl) (by rfl) (fun g28 => ?_) (fun g28 => ?_)
            · try (exfalso; revert g28; simp; done)
              all_goals
                have g28' := g28; first | simp only [dT, dF] at g28' | try simp at g28'
                refine WpO.run tabOk 3 (by simp -implicitDefEqProofs [u8s, H1, g24, g28] <;> first | exact ⟨rfl, rfl⟩ | rfl) ?_
                refine WpO.nil ?_
                refine WpC.condF (by simp -implicitDefEqProofs [u8s, H1, g24, g28] <;> rfl) ?_
                refine WpC.skip ?_
                refine qR (by simp -implicitDefEqProofs [u8s, H1, g24, g28] <;> rfl) ?_
                refine WpC.seq (WpC.drawn tabOk (by kernel_rfl) 1 (by simp) ?_)
                refine DrO.run (fz := []) 3 (by simp -implicitDefEqProofs [u8s, H1, g24, g28] <;> first | exact ⟨rfl, rfl, rfl, rfl⟩ | rfl) ?_
                refine DrO.run (fz := []) 3 (by simp -implicitDefEqProofs [u8s, H1, g24, g28] <;> first | exact ⟨rfl, rfl, rfl, rfl⟩ | rfl) ?_
                refine DrO.run (fz := []) 3 (by simp -implicitDefEqProofs [u8s, H1, g24, g28] <;> first | exact ⟨rfl, rfl, rfl, rfl⟩ | rfl) ?_
                refine DrO.run (fz := []) 3 (by simp -implicitDefEqProofs [u8s, H1, g24, g28] <;> first | exact ⟨rfl, rfl, rfl, rfl⟩ | rfl) ?_
                refine DrO.run (fz := []) 3 (by simp -implicitDefEqProofs [u8s, H1, g24, g28] <;> first | exact ⟨rfl, rfl, rfl, rfl⟩ | rfl) ?_
                refine DrO.run (fz := []) 2 (by simp -implicitDefEqProofs [u8s, H1, g24, g28] <;> first | exact ⟨rfl, rfl, rfl, rfl⟩ | rfl) ?_
                refine DrO.nil ⟨by kernel_rfl, ?_⟩
                refine WpC.seq ?_
                refine qR (by simp -implicitDefEqProofs [u8s, H1, g24, g28] <;> rfl) ?_
                refine WpC.condF (by simp -implicitDefEqProofs [u8s, H1, g24, g28] <;> rfl) ?_
                refine WpC.skip ?_
                refine WpC.seq ?_
                refine WpC.region ?_
                refine WpO.run tabOk 1 (by simp -implicitDefEqProofs [u8s, H1, g24, g28] <;> first | exact ⟨rfl, rfl⟩ | rfl) ?_
                refine WpO.data (by simp) rfl (by simp -implicitDefEqProofs [u8s, H1, g24, g28] <;> rfl) (by simp -implicitDefEqProofs [u8s, H1, g24, g28] <;> rfl) (by simp -implicitDefEqProofs [u8s, H1, g24, g28] <;> rfl) call_13 (by simp) (hrd) (by rfl) (by simp -implicitDefEqProofs [u8s, H1, g24, g28] <;> rfl) ?_
                refine WpO.run tabOk 6 (by simp -implicitDefEqProofs [u8s, H1, g24, g28] <;> first | exact ⟨rfl, rfl⟩ | rfl) ?_
                refine WpO.nil ?_
                refine WpC.seq ?_
                refine qR (by simp -implicitDefEqProofs [u8s, H1, g24, g28] <;> rfl) ?_
                refine WpC.condF (by simp -implicitDefEqProofs [u8s, H1, g24, g28] <;> rfl) ?_
                refine WpC.skip ?_
                refine WpC.seq ?_
                refine WpC.drawn tabOk (by kernel_rfl) 0 (by simp) ?_
                refine DrO.run (fz := []) 3 (by simp -implicitDefEqProofs [u8s, H1, g24, g28] <;> first | exact ⟨rfl, rfl, rfl, rfl⟩ | rfl) ?_
                refine DrO.splitB 95 (by simp -implicitDefEqProofs [u8s, H1, g24, g28] <;> rfl) (by rfl) (fun g95 => ?_) (fun g95 => ?_)
                · try (exfalso; revert g95; simp; done)
                  all_goals
                    have g95' := g95; first | simp only [dT, dF] at g95' | try simp at g95'
                    refine DrO.run (fz := []) 3 (by simp -implicitDefEqProofs [u8s, H1, g24, g28, g95] <;> first | exact ⟨rfl, rfl, rfl, rfl⟩ | rfl) ?_
                    refine DrO.run (fz := []) 3 (by simp -implicitDefEqProofs [u8s, H1, g24, g28, g95] <;> first | exact ⟨rfl, rfl, rfl, rfl⟩ | rfl) ?_
                    refine DrO.run (fz := []) 3 (by simp -implicitDefEqProofs [u8s, H1, g24, g28, g95] <;> first | exact ⟨rfl, rfl, rfl, rfl⟩ | rfl) ?_
                    refine DrO.run (fz := []) 3 (by simp -implicitDefEqProofs [u8s, H1, g24, g28, g95] <;> first | exact ⟨rfl, rfl, rfl, rfl⟩ | rfl) ?_
                    refine DrO.run (fz := []) 3 (by simp -implicitDefEqProofs [u8s, H1, g24, g28, g95] <;> first | exact ⟨rfl, rfl, rfl, rfl⟩ | rfl) ?_
                    refine DrO.run (fz := []) 1 (by simp -implicitDefEqProofs [u8s, H1, g24, g28, g95] <;> first | exact ⟨rfl, rfl, rfl, rfl⟩ | rfl) ?_
                    refine DrO.data (by simp) rfl (by simp -implicitDefEqProofs [u8s, H1, g24, g28, g95] <;> rfl) (by simp -implicitDefEqProofs [u8s, H1, g24, g28, g95] <;> rfl) (by simp -implicitDefEqProofs [u8s, H1, g24, g28, g95] <;> rfl) call_8 (awake_ok) (by rfl) (by simp -implicitDefEqProofs [u8s, H1, g24, g28, g95] <;> rfl) ?_
                    refine DrO.run (fz := []) 2 (by simp -implicitDefEqProofs [u8s, H1, g24, g28, g95] <;> first | exact ⟨rfl, rfl, rfl, rfl⟩ | rfl) ?_
                    refine DrO.nil ⟨by kernel_rfl, ?_⟩
                    refine WpC.ret ?_
                    try simp only [blockQ, seqQ]
                    refine retD_i (by simp -implicitDefEqProofs [u8s, H1, g24, g28, g95] <;> rfl) (by simp -implicitDefEqProofs [u8s, H1, g24, g28, g95] <;> rfl) ?_
                    simp -implicitDefEqProofs [u8s, H1, g24, g28, g95]
                · try (exfalso; revert g95; simp; done)
                  all_goals
                    have g95' := g95; first | simp only [dT, dF] at g95' | try simp at g95'
                    refine DrO.run (fz := []) 3 (by simp -implicitDefEqProofs [u8s, H1, g24, g28, g95] <;> first | exact ⟨rfl, rfl, rfl, rfl⟩ | rfl) ?_
                    refine DrO.splitB 98 (by simp -implicitDefEqProofs [u8s, H1, g24, g28, g95] <;> rfl) (by rfl) (fun g98 => ?_) (fun g98 => ?_)
                    · try (exfalso; revert g98; simp; done)
                      all_goals
                        have g98' := g98; first | simp only [dT, dF] at g98' | try simp at g98'
                        refine DrO.run (fz := []) 3 (by simp -implicitDefEqProofs [u8s, H1, g24, g28, g95, g98] <;> first | exact ⟨rfl, rfl, rfl, rfl⟩ | rfl) ?_
                        refine DrO.run (fz := []) 1 (by simp -implicitDefEqProofs [u8s, H1, g24, g28, g95, g98] <;> first | exact ⟨rfl, rfl, rfl, rfl⟩ | rfl) ?_
                        refine DrO.splitB 102 (by simp -implicitDefEqProofs [u8s, H1, g24, g28, g95, g98] <;> rfl) (by rfl) (fun g102 => ?_) (fun g102 => ?_)
                        · try (exfalso; revert g102; simp; done)
                          all_goals
                            have g102' := g102; first | simp only [dT, dF] at g102' | try simp at g102'
                            refine DrO.run (fz := []) 1 (by simp -implicitDefEqProofs [u8s, H1, g24, g28, g95, g98, g102] <;> first | exact ⟨rfl, rfl, rfl, rfl⟩ | rfl) ?_
                            contradiction
                            refine DrO.run (fz := []) 1 (by simp -implicitDefEqProofs [u8s, H1, g24, g28, g95, g98, g102] <;> first | exact ⟨rfl, rfl, rfl, rfl⟩ | rfl) ?_
                            contradiction
                            contradiction
                            refine DrO.run (fz := []) 3 (by simp -implicitDefEqProofs [u8s, H1, g24, g28, g95, g98, g102] <;> first | exact ⟨rfl, rfl, rfl, rfl⟩ | rfl) ?_
                            refine DrO.run (fz := []) 1 (by simp -implicitDefEqProofs [u8s, H1, g24, g28, g95, g98, g102] <;> first | exact ⟨rfl, rfl, rfl, rfl⟩ | rfl) ?_
                            refine DrO.splitB 111 (by simp -implicitDefEqProofs [u8s, H1, g24, g28, g95, g98, g102] <;> rfl) (by rfl) (fun g111 => ?_) (fun g111 => ?_)
                            · try (exfalso; revert g111; simp; done)
                              all_goals
                                have g111' := g111; first | simp only [dT, dF] at g111' | try simp at g111'
                                refine DrO.data (by simp) rfl (by simp -implicitDefEqProofs [u8s, H1, g24, g28, g95, g98, g102, g111] <;> rfl) (by simp -implicitDefEqProofs [u8s, H1, g24, g28, g95, g98, g102, g111] <;> rfl) (by simp -implicitDefEqProofs [u8s, H1, g24, g28, g95, g98, g102, g111] <;> rfl) call_8 (awake_ok) (by rfl) (by simp -implicitDefEqProofs [u8s, H1, g24, g28, g95, g98, g102, g111] <;> rfl) ?_
                                refine DrO.run (fz := []) 2 (by simp -implicitDefEqProofs [u8s, H1, g24, g28, g95, g98, g102, g111] <;> first | exact ⟨rfl, rfl, rfl, rfl⟩ | rfl) ?_
                                refine DrO.nil ⟨by kernel_rfl, ?_⟩
                                refine WpC.ret ?_
                                try simp only [blockQ, seqQ]
                                refine retD_i (by simp -implicitDefEqProofs [u8s, H1, g24, g28, g95, g98, g102, g111] <;> rfl) (by simp -implicitDefEqProofs [u8s, H1, g24, g28, g95, g98, g102, g111] <;> rfl) ?_
                                simp -implicitDefEqProofs [u8s, H1, g24, g28, g95, g98, g102, g111]
                            · try (exfalso; revert g111; simp; done)
                              all_goals
                                have g111' := g111; first | simp only [dT, dF] at g111' | try simp at g111'
                                refine DrO.run (fz := []) 3 (by simp -implicitDefEqProofs [u8s, H1, g24, g28, g95, g98, g102, g111] <;> first | exact ⟨rfl, rfl, rfl, rfl⟩ | rfl) ?_
                                refine DrO.nil ⟨by kernel_rfl, ?_⟩
                                refine WpC.ret ?_
                                try simp only [blockQ, seqQ]
                                refine retD_i (by simp -implicitDefEqProofs [u8s, H1, g24, g28, g95, g98, g102, g111] <;> rfl) (by simp -implicitDefEqProofs [u8s, H1, g24, g28, g95, g98, g102, g111] <;> rfl) ?_
                                simp -implicitDefEqProofs [u8s, H1, g24, g28, g95, g98, g102, g111]
                        · try (exfalso; revert g102; simp; done)
                          all_goals
                            have g102' := g102; first | simp only [dT, dF] at g102' | try simp at g102'
                            refine DrO.run (fz := []) 3 (by simp -implicitDefEqProofs [u8s, H1, g24, g28, g95, g98, g102] <;> first | exact ⟨rfl, rfl, rfl, rfl⟩ | rfl) ?_
                            refine DrO.run (fz := []) 3 (by simp -implicitDefEqProofs [u8s, H1, g24, g28, g95, g98, g102] <;> first | exact ⟨rfl, rfl, rfl, rfl⟩ | rfl) ?_
                            refine DrO.run (fz := []) 3 (by simp -implicitDefEqProofs [u8s, H1, g24, g28, g95, g98, g102] <;> first | exact ⟨rfl, rfl, rfl, rfl⟩ | rfl) ?_
                            refine DrO.run (fz := []) 3 (by simp -implicitDefEqProofs [u8s, H1, g24, g28, g95, g98, g102] <;> first | exact ⟨rfl, rfl, rfl, rfl⟩ | rfl) ?_
                            refine DrO.nil ⟨by kernel_rfl, ?_⟩
                            refine WpC.ret ?_
                            try simp only [blockQ, seqQ]
                            refine retD_i (by simp -implicitDefEqProofs [u8s, H1, g24, g28, g95, g98, g102] <;> rfl) (by simp -implicitDefEqProofs [u8s, H1, g24, g28, g95, g98, g102] <;> rfl) ?_
                            simp -implicitDefEqProofs [u8s, H1, g24, g28, g95, g98, g102]
                    · try (exfalso; revert g98; simp; done)
                      all_goals
                        have g98' := g98; first | simp only [dT, dF] at g98' | try simp at g98'
                        refine DrO.run (fz := []) 3 (by simp -implicitDefEqProofs [u8s, H1, g24, g28, g95, g98] <;> first | exact ⟨rfl, rfl, rfl, rfl⟩ | rfl) ?_
                        refine DrO.run (fz := []) 3 (by simp -implicitDefEqProofs [u8s, H1, g24, g28, g95, g98] <;> first | exact ⟨rfl, rfl, rfl, rfl⟩ | rfl) ?_
                        refine DrO.run (fz := []) 3 (by simp -implicitDefEqProofs [u8s, H1, g24, g28, g95, g98] <;> first | exact ⟨rfl, rfl, rfl, rfl⟩ | rfl) ?_
                        refine DrO.run (fz := []) 3 (by simp -implicitDefEqProofs [u8s, H1, g24, g28, g95, g98] <;> first | exact ⟨rfl, rfl, rfl, rfl⟩ | rfl) ?_
                        refine DrO.run (fz := []) 3 (by simp -implicitDefEqProofs [u8s, H1, g24, g28, g95, g98] <;> first | exact ⟨rfl, rfl, rfl, rfl⟩ | rfl) ?_
                        refine DrO.run (fz := []) 1 (by simp -implicitDefEqProofs [u8s, H1, g24, g28, g95, g98] <;> first | exact ⟨rfl, rfl, rfl, rfl⟩ | rfl) ?_
                        refine DrO.nil ⟨by kernel_rfl, ?_⟩
                        refine WpC.ret ?_
                        try simp only [blockQ, seqQ]
                        refine retD_i (by simp -implicitDefEqProofs [u8s, H1, g24, g28, g95, g98] <;> rfl) (by simp -implicitDefEqProofs [u8s, H1, g24, g28, g95, g98] <;> rfl) ?_
                        simp -implicitDefEqProofs [u8s, H1, g24, g28, g95, g98]
            · try (exfalso; revert g28; simp; done)
              all_goals
                have g28' := g28; first | simp only [dT, dF] at g28' | try simp at g28'
                refine WpO.run tabOk 3 (by simp -implicitDefEqProofs [u8s, H1, g24, g28] <;> first | exact ⟨rfl, rfl⟩ | rfl) ?_
                refine WpO.nil ?_
                refine WpC.condF (by simp -implicitDefEqProofs [u8s, H1, g24, g28] <;> rfl) ?_
                refine WpC.skip ?_
                refine qR (by simp -implicitDefEqProofs [u8s, H1, g24, g28] <;> rfl) ?_
                refine WpC.seq (WpC.drawn tabOk (by kernel_rfl) 1 (by simp) ?_)
                refine DrO.run (fz := []) 3 (by simp -implicitDefEqProofs [u8s, H1, g24, g28] <;> first | exact ⟨rfl, rfl, rfl, rfl⟩ | rfl) ?_
                refine DrO.run (fz := []) 3 (by simp -implicitDefEqProofs [u8s, H1, g24, g28] <;> first | exact ⟨rfl, rfl, rfl, rfl⟩ | rfl) ?_
                refine DrO.run (fz := []) 3 (by simp -implicitDefEqProofs [u8s, H1, g24, g28] <;> first | exact ⟨rfl, rfl, rfl, rfl⟩ | rfl) ?_
                refine DrO.run (fz := []) 3 (by simp -implicitDefEqProofs [u8s, H1, g24, g28] <;> first | exact ⟨rfl, rfl, rfl, rfl⟩ | rfl) ?_
                refine DrO.run (fz := []) 3 (by simp -implicitDefEqProofs [u8s, H1, g24, g28] <;> first | exact ⟨rfl, rfl, rfl, rfl⟩ | rfl) ?_
                refine DrO.run (fz := []) 2 (by simp -implicitDefEqProofs [u8s, H1, g24, g28] <;> first | exact ⟨rfl, rfl, rfl, rfl⟩ | rfl) ?_
                refine DrO.nil ⟨by kernel_rfl, ?_⟩
                refine WpC.seq ?_
                refine qR (by simp -implicitDefEqProofs [u8s, H1, g24, g28] <;> rfl) ?_
                refine WpC.condF (by simp -implicitDefEqProofs [u8s, H1, g24, g28] <;> rfl) ?_
                refine WpC.skip ?_
                refine WpC.seq ?_
                refine WpC.region ?_
                refine WpO.run tabOk 1 (by simp -implicitDefEqProofs [u8s, H1, g24, g28] <;> first | exact ⟨rfl, rfl⟩ | rfl) ?_
                refine WpO.data (by simp) rfl (by simp -implicitDefEqProofs [u8s, H1, g24, g28] <;> rfl) (by simp -implicitDefEqProofs [u8s, H1, g24, g28] <;> rfl) (by simp -implicitDefEqProofs [u8s, H1, g24, g28] <;> rfl) call_13 (by simp) (hrd) (by rfl) (by simp -implicitDefEqProofs [u8s, H1, g24, g28] <;> rfl) ?_
                refine WpO.run tabOk 6 (by simp -implicitDefEqProofs [u8s, H1, g24, g28] <;> first | exact ⟨rfl, rfl⟩ | rfl) ?_
                refine WpO.nil ?_
                refine WpC.seq ?_
                refine qR (by simp -implicitDefEqProofs [u8s, H1, g24, g28] <;> rfl) ?_
                refine WpC.condF (by simp -implicitDefEqProofs [u8s, H1, g24, g28] <;> rfl) ?_
                refine WpC.skip ?_
                refine WpC.seq ?_
                refine WpC.drawn tabOk (by kernel_rfl) 0 (by simp) ?_
                refine DrO.run (fz := []) 3 (by simp -implicitDefEqProofs [u8s, H1, g24, g28] <;> first | exact ⟨rfl, rfl, rfl, rfl⟩ | rfl) ?_
                refine DrO.splitB 95 (by simp -implicitDefEqProofs [u8s, H1, g24, g28] <;> rfl) (by rfl) (fun g95 => ?_) (fun g95 => ?_)
                · try (exfalso; revert g95; simp; done)
                  all_goals
                    have g95' := g95; first | simp only [dT, dF] at g95' | try simp at g95'
                    refine DrO.run (fz := []) 3 (by simp -implicitDefEqProofs [u8s, H1, g24, g28, g95] <;> first | exact ⟨rfl, rfl, rfl, rfl⟩ | rfl) ?_
                    refine DrO.run (fz := []) 3 (by simp -implicitDefEqProofs [u8s, H1, g24, g28, g95] <;> first | exact ⟨rfl, rfl, rfl, rfl⟩ | rfl) ?_
                    refine DrO.run (fz := []) 3 (by simp -implicitDefEqProofs [u8s, H1, g24, g28, g95] <;> first | exact ⟨rfl, rfl, rfl, rfl⟩ | rfl) ?_
                    refine DrO.run (fz := []) 3 (by simp -implicitDefEqProofs [u8s, H1, g24, g28, g95] <;> first | exact ⟨rfl, rfl, rfl, rfl⟩ | rfl) ?_
                    refine DrO.run (fz := []) 3 (by simp -implicitDefEqProofs [u8s, H1, g24, g28, g95] <;> first | exact ⟨rfl, rfl, rfl, rfl⟩ | rfl) ?_
                    refine DrO.run (fz := []) 1 (by simp -implicitDefEqProofs [u8s, H1, g24, g28, g95] <;> first | exact ⟨rfl, rfl, rfl, rfl⟩ | rfl) ?_
                    refine DrO.data (by simp) rfl (by simp -implicitDefEqProofs [u8s, H1, g24, g28, g95] <;> rfl) (by simp -implicitDefEqProofs [u8s, H1, g24, g28, g95] <;> rfl) (by simp -implicitDefEqProofs [u8s, H1, g24, g28, g95] <;> rfl) call_8 (awake_ok) (by rfl) (by simp -implicitDefEqProofs [u8s, H1, g24, g28, g95] <;> rfl) ?_
                    refine DrO.run (fz := []) 2 (by simp -implicitDefEqProofs [u8s, H1, g24, g28, g95] <;> first | exact ⟨rfl, rfl, rfl, rfl⟩ | rfl) ?_
                    refine DrO.nil ⟨by kernel_rfl, ?_⟩
                    refine WpC.ret ?_
                    try simp only [blockQ, seqQ]
                    refine retD_i (by simp -implicitDefEqProofs [u8s, H1, g24, g28, g95] <;> rfl) (by simp -implicitDefEqProofs [u8s, H1, g24, g28, g95] <;> rfl) ?_
                    simp -implicitDefEqProofs [u8s, H1, g24, g28, g95]
                · try (exfalso; revert g95; simp; done)
                  all_goals
                    have g95' := g95; first | simp only [dT, dF] at g95' | try simp at g95'
                    refine DrO.run (fz := []) 3 (by simp -implicitDefEqProofs [u8s, H1, g24, g28, g95] <;> first | exact ⟨rfl, rfl, rfl, rfl⟩ | rfl) ?_
                    refine DrO.splitB 98 (by simp -implicitDefEqProofs [u8s, H1, g24, g28, g95] <;> rfl) (by rfl) (fun g98 => ?_) (fun g98 => ?_)
                    · try (exfalso; revert g98; simp; done)
                      all_goals
                        have g98' := g98; first | simp only [dT, dF] at g98' | try simp at g98'
                        refine DrO.run (fz := []) 3 (by simp -implicitDefEqProofs [u8s, H1, g24, g28, g95, g98] <;> first | exact ⟨rfl, rfl, rfl, rfl⟩ | rfl) ?_
                        refine DrO.run (fz := []) 1 (by simp -implicitDefEqProofs [u8s, H1, g24, g28, g95, g98] <;> first | exact ⟨rfl, rfl, rfl, rfl⟩ | rfl) ?_
                        refine DrO.splitB 102 (by simp -implicitDefEqProofs [u8s, H1, g24, g28, g95, g98] <;> rfl) (by rfl) (fun g102 => ?_) (fun g102 => ?_)
                        · try (exfalso; revert g102; simp; done)
                          all_goals
                            have g102' := g102; first | simp only [dT, dF] at g102' | try simp at g102'
                            refine DrO.run (fz := []) 1 (by simp -implicitDefEqProofs [u8s, H1, g24, g28, g95, g98, g102] <;> first | exact ⟨rfl, rfl, rfl, rfl⟩ | rfl) ?_
                            contradiction
                            refine DrO.run (fz := []) 1 (by simp -implicitDefEqProofs [u8s, H1, g24, g28, g95, g98, g102] <;> first | exact ⟨rfl, rfl, rfl, rfl⟩ | rfl) ?_
                            contradiction
                            contradiction
                            refine DrO.run (fz := []) 3 (by simp -implicitDefEqProofs [u8s, H1, g24, g28, g95, g98, g102] <;> first | exact ⟨rfl, rfl, rfl, rfl⟩ | rfl) ?_
                            refine DrO.run (fz := []) 1 (by simp -implicitDefEqProofs [u8s, H1, g24, g28, g95, g98, g102] <;> first | exact ⟨rfl, rfl, rfl, rfl⟩ | rfl) ?_
                            refine DrO.splitB 111 (by simp -implicitDefEqProofs [u8s, H1, g24, g28, g95, g98, g102] <;> rfl) (by rfl) (fun g111 => ?_) (fun g111 => ?_)
                            · try (exfalso; revert g111; simp; done)
                              all_goals
                                have g111' := g111; first | simp only [dT, dF] at g111' | try simp at g111'
                                refine DrO.data (by simp) rfl (by simp -implicitDefEqProofs [u8s, H1, g24, g28, g95, g98, g102, g111] <;> rfl) (by simp -implicitDefEqProofs [u8s, H1, g24, g28, g95, g98, g102, g111] <;> rfl) (by simp -implicitDefEqProofs [u8s, H1, g24, g28, g95, g98, g102, g111] <;> rfl) call_8 (awake_ok) (by rfl) (by simp -implicitDefEqProofs [u8s, H1, g24, g28, g95, g98, g102, g111] <;> rfl) ?_
                                refine DrO.run (fz := []) 2 (by simp -implicitDefEqProofs [u8s, H1, g24, g28, g95, g98, g102, g111] <;> first | exact ⟨rfl, rfl, rfl, rfl⟩ | rfl) ?_
                                refine DrO.nil ⟨by kernel_rfl, ?_⟩
                                refine WpC.ret ?_
                                try simp only [blockQ, seqQ]
                                refine retD_i (by simp -implicitDefEqProofs [u8s, H1, g24, g28, g95, g98, g102, g111] <;> rfl) (by simp -implicitDefEqProofs [u8s, H1, g24, g28, g95, g98, g102, g111] <;> rfl) ?_
                                simp -implicitDefEqProofs [u8s, H1, g24, g28, g95, g98, g102, g111]
                            · try (exfalso; revert g111; simp; done)
                              all_goals
                                have g111' := g111; first | simp only [dT, dF] at g111' | try simp at g111'
                                refine DrO.run (fz := []) 3 (by simp -implicitDefEqProofs [u8s, H1, g24, g28, g95, g98, g102, g111] <;> first | exact ⟨rfl, rfl, rfl, rfl⟩ | rfl) ?_
                                refine DrO.nil ⟨by kernel_rfl, ?_⟩
                                refine WpC.ret ?_
                                try simp only [blockQ, seqQ]
                                refine retD_i (by simp -implicitDefEqProofs [u8s, H1, g24, g28, g95, g98, g102, g111] <;> rfl) (by simp -implicitDefEqProofs [u8s, H1, g24, g28, g95, g98, g102, g111] <;> rfl) ?_
                                simp -implicitDefEqProofs [u8s, H1, g24, g28, g95, g98, g102, g111]
                        · try (exfalso; revert g102; simp; done)
                          all_goals
                            have g102' := g102; first | simp only [dT, dF] at g102' | try simp at g102'
                            refine DrO.run (fz := []) 3 (by simp -implicitDefEqProofs [u8s, H1, g24, g28, g95, g98, g102] <;> first | exact ⟨rfl, rfl, rfl, rfl⟩ | rfl) ?_
                            refine DrO.run (fz := []) 3 (by simp -implicitDefEqProofs [u8s, H1, g24, g28, g95, g98, g102] <;> first | exact ⟨rfl, rfl, rfl, rfl⟩ | rfl) ?_
                            refine DrO.run (fz := []) 3 (by simp -implicitDefEqProofs [u8s, H1, g24, g28, g95, g98, g102] <;> first | exact ⟨rfl, rfl, rfl, rfl⟩ | rfl) ?_
                            refine DrO.run (fz := []) 3 (by simp -implicitDefEqProofs [u8s, H1, g24, g28, g95, g98, g102] <;> first | exact ⟨rfl, rfl, rfl, rfl⟩ | rfl) ?_
                            refine DrO.nil ⟨by kernel_rfl, ?_⟩
                            refine WpC.ret ?_
                            try simp only [blockQ, seqQ]
                            refine retD_i (by simp -implicitDefEqProofs [u8s, H1, g24, g28, g95, g98, g102] <;> rfl) (by simp -implicitDefEqProofs [u8s, H1, g24, g28, g95, g98, g102] <;> rfl) ?_
                            simp -implicitDefEqProofs [u8s, H1, g24, g28, g95, g98, g102]
                    · try (exfalso; revert g98; simp; done)
                      all_goals
                        have g98' := g98; first | simp only [dT, dF] at g98' | try simp at g98'
                        refine DrO.run (fz := []) 3 (by simp -implicitDefEqProofs [u8s, H1, g24, g28, g95, g98] <;> first | exact ⟨rfl, rfl, rfl, rfl⟩ | rfl) ?_
                        refine DrO.run (fz := []) 3 (by simp -implicitDefEqProofs [u8s, H1, g24, g28, g95, g98] <;> first | exact ⟨rfl, rfl, rfl, rfl⟩ | rfl) ?_
                        refine DrO.run (fz := []) 3 (by simp -implicitDefEqProofs [u8s, H1, g24, g28, g95, g98] <;> first | exact ⟨rfl, rfl, rfl, rfl⟩ | rfl) ?_
                        refine DrO.run (fz := []) 3 (by simp -implicitDefEqProofs [u8s, H1, g24, g28, g95, g98] <;> first | exact ⟨rfl, rfl, rfl, rfl⟩ | rfl) ?_
                        refine DrO.run (fz := []) 3 (by simp -implicitDefEqProofs [u8s, H1, g24, g28, g95, g98] <;> first | exact ⟨rfl, rfl, rfl, rfl⟩ | rfl) ?_
                        refine DrO.run (fz := []) 1 (by simp -implicitDefEqProofs [u8s, H1, g24, g28, g95, g98] <;> first | exact ⟨rfl, rfl, rfl, rfl⟩ | rfl) ?_
                        refine DrO.nil ⟨by kernel_rfl, ?_⟩
                        refine WpC.ret ?_
                        try simp only [blockQ, seqQ]
                        refine retD_i (by simp -implicitDefEqProofs [u8s, H1, g24, g28, g95, g98] <;> rfl) (by simp -implicitDefEqProofs [u8s, H1, g24, g28, g95, g98] <;> rfl) ?_
                        simp -implicitDefEqProofs [u8s, H1, g24, g28, g95, g98]
      | some f =>
        obtain ⟨per2, l2⟩ := f
        rw [hrr] at hrd
        simp only [encR] at hrd
        obtain ⟨hr2, ht2⟩ := read_some hrr
        have hl2 := right_len hr2
        have hf2 := ref_ok per2 l2 (by omega)
        have hsm := same_ok per2 per l2 l (by omega) (by omega)
        have hss : sameB per2 l2 per l = false := by
          cases hss : sameB per2 l2 per l with
          | false => rfl
          | true =>
            simp only [sameB, Bool.and_eq_true, decide_eq_true_eq] at hss
            rw [hss.1, hss.2, hT] at ht2
            exact absurd ht2.symm he
        rw [hss] at hsm
        refine Gives.enter tabOk Tryd.func5 rfl (by show 4 ≤ 114; decide) ?_
        simp only [Tryd.f5]
        have H1 := And.intro k2 (And.intro hN (And.intro hT0 (And.intro w1 (And.intro hi (And.intro hN0 (And.intro w2 (And.intro k3 (And.intro k4 (And.intro hc (And.intro hx (And.intro hA (And.intro hB (And.intro hAl (And.intro hBl (And.intro b1 (And.intro b2 (And.intro b3 (And.intro hBB (And.intro hiT (And.intro k8 (And.intro ht hq)))))))))))))))))))))
        refine qR (by simp -implicitDefEqProofs [u8s, H1] <;> rfl) ?_
        refine WpC.seq ?_
        refine WpC.region ?_
        refine WpO.run tabOk 1 (by simp -implicitDefEqProofs [u8s, H1] <;> first | exact ⟨rfl, rfl⟩ | rfl) ?_
        refine WpO.data (by simp) rfl (by simp -implicitDefEqProofs [u8s, H1] <;> rfl) (by simp -implicitDefEqProofs [u8s, H1] <;> rfl) (by simp -implicitDefEqProofs [u8s, H1] <;> rfl) call_9 (by simp) (hw) (by rfl) (by simp -implicitDefEqProofs [u8s, H1] <;> rfl) ?_
        refine WpO.run tabOk 5 (by simp -implicitDefEqProofs [u8s, H1] <;> first | exact ⟨rfl, rfl⟩ | rfl) ?_
        refine WpO.nil ?_
        refine WpC.seq ?_
        refine WpC.seq ?_
        refine WpC.region ?_
        refine WpO.run tabOk 5 (by simp -implicitDefEqProofs [u8s, H1] <;> first | exact ⟨rfl, rfl⟩ | rfl) ?_
        refine WpO.splitB 24 (by simp -implicitDefEqProofs [u8s, H1] <;> rfl) (by rfl) (fun g24 => ?_) (fun g24 => ?_)
        · try (exfalso; revert g24; simp; done)
          all_goals
            have g24' := g24; first | simp only [dT, dF] at g24' | try simp at g24'
            refine WpO.run tabOk 7 (by simp -implicitDefEqProofs [u8s, H1, g24] <;> first | exact ⟨rfl, rfl⟩ | rfl) ?_
            refine WpO.nil ?_
            refine WpC.condF (by simp -implicitDefEqProofs [u8s, H1, g24] <;> rfl) ?_
            refine WpC.skip ?_
            refine qR (by simp -implicitDefEqProofs [u8s, H1, g24] <;> rfl) ?_
            refine WpC.seq (WpC.drawn tabOk (by kernel_rfl) 1 (by simp) ?_)
            refine DrO.run (fz := []) 3 (by simp -implicitDefEqProofs [u8s, H1, g24] <;> first | exact ⟨rfl, rfl, rfl, rfl⟩ | rfl) ?_
            refine DrO.run (fz := []) 3 (by simp -implicitDefEqProofs [u8s, H1, g24] <;> first | exact ⟨rfl, rfl, rfl, rfl⟩ | rfl) ?_
            refine DrO.run (fz := []) 3 (by simp -implicitDefEqProofs [u8s, H1, g24] <;> first | exact ⟨rfl, rfl, rfl, rfl⟩ | rfl) ?_
            refine DrO.run (fz := []) 3 (by simp -implicitDefEqProofs [u8s, H1, g24] <;> first | exact ⟨rfl, rfl, rfl, rfl⟩ | rfl) ?_
            refine DrO.run (fz := []) 3 (by simp -implicitDefEqProofs [u8s, H1, g24] <;> first | exact ⟨rfl, rfl, rfl, rfl⟩ | rfl) ?_
            refine DrO.run (fz := []) 2 (by simp -implicitDefEqProofs [u8s, H1, g24] <;> first | exact ⟨rfl, rfl, rfl, rfl⟩ | rfl) ?_
            refine DrO.nil ⟨by kernel_rfl, ?_⟩
            refine WpC.seq ?_
            refine qR (by simp -implicitDefEqProofs [u8s, H1, g24] <;> rfl) ?_
            refine WpC.condF (by simp -implicitDefEqProofs [u8s, H1, g24] <;> rfl) ?_
            refine WpC.skip ?_
            refine WpC.seq ?_
            refine WpC.region ?_
            refine WpO.run tabOk 1 (by simp -implicitDefEqProofs [u8s, H1, g24] <;> first | exact ⟨rfl, rfl⟩ | rfl) ?_
            refine WpO.data (by simp) rfl (by simp -implicitDefEqProofs [u8s, H1, g24] <;> rfl) (by simp -implicitDefEqProofs [u8s, H1, g24] <;> rfl) (by simp -implicitDefEqProofs [u8s, H1, g24] <;> rfl) call_13 (by simp) (hrd) (by rfl) (by simp -implicitDefEqProofs [u8s, H1, g24] <;> rfl) ?_
            refine WpO.run tabOk 6 (by simp -implicitDefEqProofs [u8s, H1, g24] <;> first | exact ⟨rfl, rfl⟩ | rfl) ?_
            refine WpO.nil ?_
            refine WpC.seq ?_
            refine qR (by simp -implicitDefEqProofs [u8s, H1, g24] <;> rfl) ?_
            refine WpC.condF (by simp -implicitDefEqProofs [u8s, H1, g24] <;> rfl) ?_
            refine WpC.skip ?_
            refine WpC.seq ?_
            refine WpC.drawn tabOk (by kernel_rfl) 0 (by simp) ?_
            refine DrO.run (fz := []) 3 (by simp -implicitDefEqProofs [u8s, H1, g24] <;> first | exact ⟨rfl, rfl, rfl, rfl⟩ | rfl) ?_
            refine DrO.splitB 95 (by simp -implicitDefEqProofs [u8s, H1, g24] <;> rfl) (by rfl) (fun g95 => ?_) (fun g95 => ?_)
            · try (exfalso; revert g95; simp; done)
              all_goals
                have g95' := g95; first | simp only [dT, dF] at g95' | try simp at g95'
                refine DrO.run (fz := []) 3 (by simp -implicitDefEqProofs [u8s, H1, g24, g95] <;> first | exact ⟨rfl, rfl, rfl, rfl⟩ | rfl) ?_
                refine DrO.run (fz := []) 3 (by simp -implicitDefEqProofs [u8s, H1, g24, g95] <;> first | exact ⟨rfl, rfl, rfl, rfl⟩ | rfl) ?_
                refine DrO.run (fz := []) 3 (by simp -implicitDefEqProofs [u8s, H1, g24, g95] <;> first | exact ⟨rfl, rfl, rfl, rfl⟩ | rfl) ?_
                refine DrO.run (fz := []) 3 (by simp -implicitDefEqProofs [u8s, H1, g24, g95] <;> first | exact ⟨rfl, rfl, rfl, rfl⟩ | rfl) ?_
                refine DrO.run (fz := []) 3 (by simp -implicitDefEqProofs [u8s, H1, g24, g95] <;> first | exact ⟨rfl, rfl, rfl, rfl⟩ | rfl) ?_
                refine DrO.run (fz := []) 1 (by simp -implicitDefEqProofs [u8s, H1, g24, g95] <;> first | exact ⟨rfl, rfl, rfl, rfl⟩ | rfl) ?_
                refine DrO.data (by simp) rfl (by simp -implicitDefEqProofs [u8s, H1, g24, g95] <;> rfl) (by simp -implicitDefEqProofs [u8s, H1, g24, g95] <;> rfl) (by simp -implicitDefEqProofs [u8s, H1, g24, g95] <;> rfl) call_8 (awake_ok) (by rfl) (by simp -implicitDefEqProofs [u8s, H1, g24, g95] <;> rfl) ?_
                refine DrO.run (fz := []) 2 (by simp -implicitDefEqProofs [u8s, H1, g24, g95] <;> first | exact ⟨rfl, rfl, rfl, rfl⟩ | rfl) ?_
                refine DrO.nil ⟨by kernel_rfl, ?_⟩
                refine WpC.ret ?_
                try simp only [blockQ, seqQ]
                refine retD_i (by simp -implicitDefEqProofs [u8s, H1, g24, g95] <;> rfl) (by simp -implicitDefEqProofs [u8s, H1, g24, g95] <;> rfl) ?_
                simp -implicitDefEqProofs [u8s, H1, g24, g95]
            · try (exfalso; revert g95; simp; done)
              all_goals
                have g95' := g95; first | simp only [dT, dF] at g95' | try simp at g95'
                refine DrO.run (fz := []) 3 (by simp -implicitDefEqProofs [u8s, H1, g24, g95] <;> first | exact ⟨rfl, rfl, rfl, rfl⟩ | rfl) ?_
                refine DrO.splitB 98 (by simp -implicitDefEqProofs [u8s, H1, g24, g95] <;> rfl) (by rfl) (fun g98 => ?_) (fun g98 => ?_)
                · try (exfalso; revert g98; simp; done)
                  all_goals
                    have g98' := g98; first | simp only [dT, dF] at g98' | try simp at g98'
                    refine DrO.run (fz := []) 3 (by simp -implicitDefEqProofs [u8s, H1, g24, g95, g98] <;> first | exact ⟨rfl, rfl, rfl, rfl⟩ | rfl) ?_
                    refine DrO.run (fz := []) 1 (by simp -implicitDefEqProofs [u8s, H1, g24, g95, g98] <;> first | exact ⟨rfl, rfl, rfl, rfl⟩ | rfl) ?_
                    refine DrO.splitB 102 (by simp -implicitDefEqProofs [u8s, H1, g24, g95, g98] <;> rfl) (by rfl) (fun g102 => ?_) (fun g102 => ?_)
                    · try (exfalso; revert g102; simp; done)
                      all_goals
                        have g102' := g102; first | simp only [dT, dF] at g102' | try simp at g102'
                        refine DrO.run (fz := []) 1 (by simp -implicitDefEqProofs [u8s, H1, g24, g95, g98, g102] <;> first | exact ⟨rfl, rfl, rfl, rfl⟩ | rfl) ?_
                        refine DrO.data (by simp) rfl (by simp -implicitDefEqProofs [u8s, H1, g24, g95, g98, g102] <;> rfl) (by simp -implicitDefEqProofs [u8s, H1, g24, g95, g98, g102] <;> rfl) (by simp -implicitDefEqProofs [u8s, H1, g24, g95, g98, g102] <;> rfl) call_11 (hf2) (by rfl) (by simp -implicitDefEqProofs [u8s, H1, g24, g95, g98, g102] <;> rfl) ?_
                        refine DrO.run (fz := []) 1 (by simp -implicitDefEqProofs [u8s, H1, g24, g95, g98, g102] <;> first | exact ⟨rfl, rfl, rfl, rfl⟩ | rfl) ?_
                        refine DrO.data (by simp) rfl (by simp -implicitDefEqProofs [u8s, H1, g24, g95, g98, g102] <;> rfl) (by simp -implicitDefEqProofs [u8s, H1, g24, g95, g98, g102] <;> rfl) (by simp -implicitDefEqProofs [u8s, H1, g24, g95, g98, g102] <;> rfl) call_11 (hf) (by rfl) (by simp -implicitDefEqProofs [u8s, H1, g24, g95, g98, g102] <;> rfl) ?_
                        refine DrO.data (by simp) rfl (by simp -implicitDefEqProofs [u8s, H1, g24, g95, g98, g102] <;> rfl) (by simp -implicitDefEqProofs [u8s, H1, g24, g95, g98, g102] <;> rfl) (by simp -implicitDefEqProofs [u8s, H1, g24, g95, g98, g102] <;> rfl) call_15 (hsm) (by rfl) (by simp -implicitDefEqProofs [u8s, H1, g24, g95, g98, g102] <;> rfl) ?_
                        refine DrO.run (fz := []) 3 (by simp -implicitDefEqProofs [u8s, H1, g24, g95, g98, g102] <;> first | exact ⟨rfl, rfl, rfl, rfl⟩ | rfl) ?_
                        refine DrO.run (fz := []) 1 (by simp -implicitDefEqProofs [u8s, H1, g24, g95, g98, g102] <;> first | exact ⟨rfl, rfl, rfl, rfl⟩ | rfl) ?_
                        refine DrO.splitB 111 (by simp -implicitDefEqProofs [u8s, H1, g24, g95, g98, g102] <;> rfl) (by rfl) (fun g111 => ?_) (fun g111 => ?_)
                        · try (exfalso; revert g111; simp; done)
                          all_goals
                            have g111' := g111; first | simp only [dT, dF] at g111' | try simp at g111'
                            refine DrO.data (by simp) rfl (by simp -implicitDefEqProofs [u8s, H1, g24, g95, g98, g102, g111] <;> rfl) (by simp -implicitDefEqProofs [u8s, H1, g24, g95, g98, g102, g111] <;> rfl) (by simp -implicitDefEqProofs [u8s, H1, g24, g95, g98, g102, g111] <;> rfl) call_8 (awake_ok) (by rfl) (by simp -implicitDefEqProofs [u8s, H1, g24, g95, g98, g102, g111] <;> rfl) ?_
                            refine DrO.run (fz := []) 2 (by simp -implicitDefEqProofs [u8s, H1, g24, g95, g98, g102, g111] <;> first | exact ⟨rfl, rfl, rfl, rfl⟩ | rfl) ?_
                            refine DrO.nil ⟨by kernel_rfl, ?_⟩
                            refine WpC.ret ?_
                            try simp only [blockQ, seqQ]
                            refine retD_i (by simp -implicitDefEqProofs [u8s, H1, g24, g95, g98, g102, g111] <;> rfl) (by simp -implicitDefEqProofs [u8s, H1, g24, g95, g98, g102, g111] <;> rfl) ?_
                            simp -implicitDefEqProofs [u8s, H1, g24, g95, g98, g102, g111]
                        · try (exfalso; revert g111; simp; done)
                          all_goals
                            have g111' := g111; first | simp only [dT, dF] at g111' | try simp at g111'
                            refine DrO.run (fz := []) 3 (by simp -implicitDefEqProofs [u8s, H1, g24, g95, g98, g102, g111] <;> first | exact ⟨rfl, rfl, rfl, rfl⟩ | rfl) ?_
                            refine DrO.nil ⟨by kernel_rfl, ?_⟩
                            refine WpC.ret ?_
                            try simp only [blockQ, seqQ]
                            refine retD_i (by simp -implicitDefEqProofs [u8s, H1, g24, g95, g98, g102, g111] <;> rfl) (by simp -implicitDefEqProofs [u8s, H1, g24, g95, g98, g102, g111] <;> rfl) ?_
                            simp -implicitDefEqProofs [u8s, H1, g24, g95, g98, g102, g111]
                    · try (exfalso; revert g102; simp; done)
                      all_goals
                        have g102' := g102; first | simp only [dT, dF] at g102' | try simp at g102'
                        refine DrO.run (fz := []) 3 (by simp -implicitDefEqProofs [u8s, H1, g24, g95, g98, g102] <;> first | exact ⟨rfl, rfl, rfl, rfl⟩ | rfl) ?_
                        refine DrO.run (fz := []) 3 (by simp -implicitDefEqProofs [u8s, H1, g24, g95, g98, g102] <;> first | exact ⟨rfl, rfl, rfl, rfl⟩ | rfl) ?_
                        refine DrO.run (fz := []) 3 (by simp -implicitDefEqProofs [u8s, H1, g24, g95, g98, g102] <;> first | exact ⟨rfl, rfl, rfl, rfl⟩ | rfl) ?_
                        refine DrO.run (fz := []) 3 (by simp -implicitDefEqProofs [u8s, H1, g24, g95, g98, g102] <;> first | exact ⟨rfl, rfl, rfl, rfl⟩ | rfl) ?_
                        refine DrO.nil ⟨by kernel_rfl, ?_⟩
                        refine WpC.ret ?_
                        try simp only [blockQ, seqQ]
                        refine retD_i (by simp -implicitDefEqProofs [u8s, H1, g24, g95, g98, g102] <;> rfl) (by simp -implicitDefEqProofs [u8s, H1, g24, g95, g98, g102] <;> rfl) ?_
                        simp -implicitDefEqProofs [u8s, H1, g24, g95, g98, g102]
                · try (exfalso; revert g98; simp; done)
                  all_goals
                    have g98' := g98; first | simp only [dT, dF] at g98' | try simp at g98'
                    refine DrO.run (fz := []) 3 (by simp -implicitDefEqProofs [u8s, H1, g24, g95, g98] <;> first | exact ⟨rfl, rfl, rfl, rfl⟩ | rfl) ?_
                    refine DrO.run (fz := []) 3 (by simp -implicitDefEqProofs [u8s, H1, g24, g95, g98] <;> first | exact ⟨rfl, rfl, rfl, rfl⟩ | rfl) ?_
                    refine DrO.run (fz := []) 3 (by simp -implicitDefEqProofs [u8s, H1, g24, g95, g98] <;> first | exact ⟨rfl, rfl, rfl, rfl⟩ | rfl) ?_
                    refine DrO.run (fz := []) 3 (by simp -implicitDefEqProofs [u8s, H1, g24, g95, g98] <;> first | exact ⟨rfl, rfl, rfl, rfl⟩ | rfl) ?_
                    refine DrO.run (fz := []) 3 (by simp -implicitDefEqProofs [u8s, H1, g24, g95, g98] <;> first | exact ⟨rfl, rfl, rfl, rfl⟩ | rfl) ?_
                    refine DrO.run (fz := []) 1 (by simp -implicitDefEqProofs [u8s, H1, g24, g95, g98] <;> first | exact ⟨rfl, rfl, rfl, rfl⟩ | rfl) ?_
                    refine DrO.nil ⟨by kernel_rfl, ?_⟩
                    refine WpC.ret ?_
                    try simp only [blockQ, seqQ]
                    refine retD_i (by simp -implicitDefEqProofs [u8s, H1, g24, g95, g98] <;> rfl) (by simp -implicitDefEqProofs [u8s, H1, g24, g95, g98] <;> rfl) ?_
                    simp -implicitDefEqProofs [u8s, H1, g24, g95, g98]
        · try (exfalso; revert g24; simp; done)
          all_goals
            have g24' := g24; first | simp only [dT, dF] at g24' | try simp at g24'
            refine WpO.run tabOk 4 (by simp -implicitDefEqProofs [u8s, H1, g24] <;> first | exact ⟨rfl, rfl⟩ | rfl) ?_
            refine WpO.splitB 28 (by simp -implicitDefEqProofs [u8s, H1, g24] <;> rfl) (by rfl) (fun g28 => ?_) (fun g28 => ?_)
            · try (exfalso; revert g28; simp; done)
              all_goals
                have g28' := g28; first | simp only [dT, dF] at g28' | try simp at g28'
                refine WpO.run tabOk 3 (by simp -implicitDefEqProofs [u8s, H1, g24, g28] <;> first | exact ⟨rfl, rfl⟩ | rfl) ?_
                refine WpO.nil ?_
                refine WpC.condF (by simp -implicitDefEqProofs [u8s, H1, g24, g28] <;> rfl) ?_
                refine WpC.skip ?_
                refine qR (by simp -implicitDefEqProofs [u8s, H1, g24, g28] <;> rfl) ?_
                refine WpC.seq (WpC.drawn tabOk (by kernel_rfl) 1 (by simp) ?_)
                refine DrO.run (fz := []) 3 (by simp -implicitDefEqProofs [u8s, H1, g24, g28] <;> first | exact ⟨rfl, rfl, rfl, rfl⟩ | rfl) ?_
                refine DrO.run (fz := []) 3 (by simp -implicitDefEqProofs [u8s, H1, g24, g28] <;> first | exact ⟨rfl, rfl, rfl, rfl⟩ | rfl) ?_
                refine DrO.run (fz := []) 3 (by simp -implicitDefEqProofs [u8s, H1, g24, g28] <;> first | exact ⟨rfl, rfl, rfl, rfl⟩ | rfl) ?_
                refine DrO.run (fz := []) 3 (by simp -implicitDefEqProofs [u8s, H1, g24, g28] <;> first | exact ⟨rfl, rfl, rfl, rfl⟩ | rfl) ?_
                refine DrO.run (fz := []) 3 (by simp -implicitDefEqProofs [u8s, H1, g24, g28] <;> first | exact ⟨rfl, rfl, rfl, rfl⟩ | rfl) ?_
                refine DrO.run (fz := []) 2 (by simp -implicitDefEqProofs [u8s, H1, g24, g28] <;> first | exact ⟨rfl, rfl, rfl, rfl⟩ | rfl) ?_
                refine DrO.nil ⟨by kernel_rfl, ?_⟩
                refine WpC.seq ?_
                refine qR (by simp -implicitDefEqProofs [u8s, H1, g24, g28] <;> rfl) ?_
                refine WpC.condF (by simp -implicitDefEqProofs [u8s, H1, g24, g28] <;> rfl) ?_
                refine WpC.skip ?_
                refine WpC.seq ?_
                refine WpC.region ?_
                refine WpO.run tabOk 1 (by simp -implicitDefEqProofs [u8s, H1, g24, g28] <;> first | exact ⟨rfl, rfl⟩ | rfl) ?_
                refine WpO.data (by simp) rfl (by simp -implicitDefEqProofs [u8s, H1, g24, g28] <;> rfl) (by simp -implicitDefEqProofs [u8s, H1, g24, g28] <;> rfl) (by simp -implicitDefEqProofs [u8s, H1, g24, g28] <;> rfl) call_13 (by simp) (hrd) (by rfl) (by simp -implicitDefEqProofs [u8s, H1, g24, g28] <;> rfl) ?_
                refine WpO.run tabOk 6 (by simp -implicitDefEqProofs [u8s, H1, g24, g28] <;> first | exact ⟨rfl, rfl⟩ | rfl) ?_
                refine WpO.nil ?_
                refine WpC.seq ?_
                refine qR (by simp -implicitDefEqProofs [u8s, H1, g24, g28] <;> rfl) ?_
                refine WpC.condF (by simp -implicitDefEqProofs [u8s, H1, g24, g28] <;> rfl) ?_
                refine WpC.skip ?_
                refine WpC.seq ?_
                refine WpC.drawn tabOk (by kernel_rfl) 0 (by simp) ?_
                refine DrO.run (fz := []) 3 (by simp -implicitDefEqProofs [u8s, H1, g24, g28] <;> first | exact ⟨rfl, rfl, rfl, rfl⟩ | rfl) ?_
                refine DrO.splitB 95 (by simp -implicitDefEqProofs [u8s, H1, g24, g28] <;> rfl) (by rfl) (fun g95 => ?_) (fun g95 => ?_)
                · try (exfalso; revert g95; simp; done)
                  all_goals
                    have g95' := g95; first | simp only [dT, dF] at g95' | try simp at g95'
                    refine DrO.run (fz := []) 3 (by simp -implicitDefEqProofs [u8s, H1, g24, g28, g95] <;> first | exact ⟨rfl, rfl, rfl, rfl⟩ | rfl) ?_
                    refine DrO.run (fz := []) 3 (by simp -implicitDefEqProofs [u8s, H1, g24, g28, g95] <;> first | exact ⟨rfl, rfl, rfl, rfl⟩ | rfl) ?_
                    refine DrO.run (fz := []) 3 (by simp -implicitDefEqProofs [u8s, H1, g24, g28, g95] <;> first | exact ⟨rfl, rfl, rfl, rfl⟩ | rfl) ?_
                    refine DrO.run (fz := []) 3 (by simp -implicitDefEqProofs [u8s, H1, g24, g28, g95] <;> first | exact ⟨rfl, rfl, rfl, rfl⟩ | rfl) ?_
                    refine DrO.run (fz := []) 3 (by simp -implicitDefEqProofs [u8s, H1, g24, g28, g95] <;> first | exact ⟨rfl, rfl, rfl, rfl⟩ | rfl) ?_
                    refine DrO.run (fz := []) 1 (by simp -implicitDefEqProofs [u8s, H1, g24, g28, g95] <;> first | exact ⟨rfl, rfl, rfl, rfl⟩ | rfl) ?_
                    refine DrO.data (by simp) rfl (by simp -implicitDefEqProofs [u8s, H1, g24, g28, g95] <;> rfl) (by simp -implicitDefEqProofs [u8s, H1, g24, g28, g95] <;> rfl) (by simp -implicitDefEqProofs [u8s, H1, g24, g28, g95] <;> rfl) call_8 (awake_ok) (by rfl) (by simp -implicitDefEqProofs [u8s, H1, g24, g28, g95] <;> rfl) ?_
                    refine DrO.run (fz := []) 2 (by simp -implicitDefEqProofs [u8s, H1, g24, g28, g95] <;> first | exact ⟨rfl, rfl, rfl, rfl⟩ | rfl) ?_
                    refine DrO.nil ⟨by kernel_rfl, ?_⟩
                    refine WpC.ret ?_
                    try simp only [blockQ, seqQ]
                    refine retD_i (by simp -implicitDefEqProofs [u8s, H1, g24, g28, g95] <;> rfl) (by simp -implicitDefEqProofs [u8s, H1, g24, g28, g95] <;> rfl) ?_
                    simp -implicitDefEqProofs [u8s, H1, g24, g28, g95]
                · try (exfalso; revert g95; simp; done)
                  all_goals
                    have g95' := g95; first | simp only [dT, dF] at g95' | try simp at g95'
                    refine DrO.run (fz := []) 3 (by simp -implicitDefEqProofs [u8s, H1, g24, g28, g95] <;> first | exact ⟨rfl, rfl, rfl, rfl⟩ | rfl) ?_
                    refine DrO.splitB 98 (by simp -implicitDefEqProofs [u8s, H1, g24, g28, g95] <;> rfl) (by rfl) (fun g98 => ?_) (fun g98 => ?_)
                    · try (exfalso; revert g98; simp; done)
                      all_goals
                        have g98' := g98; first | simp only [dT, dF] at g98' | try simp at g98'
                        refine DrO.run (fz := []) 3 (by simp -implicitDefEqProofs [u8s, H1, g24, g28, g95, g98] <;> first | exact ⟨rfl, rfl, rfl, rfl⟩ | rfl) ?_
                        refine DrO.run (fz := []) 1 (by simp -implicitDefEqProofs [u8s, H1, g24, g28, g95, g98] <;> first | exact ⟨rfl, rfl, rfl, rfl⟩ | rfl) ?_
                        refine DrO.splitB 102 (by simp -implicitDefEqProofs [u8s, H1, g24, g28, g95, g98] <;> rfl) (by rfl) (fun g102 => ?_) (fun g102 => ?_)
                        · try (exfalso; revert g102; simp; done)
                          all_goals
                            have g102' := g102; first | simp only [dT, dF] at g102' | try simp at g102'
                            refine DrO.run (fz := []) 1 (by simp -implicitDefEqProofs [u8s, H1, g24, g28, g95, g98, g102] <;> first | exact ⟨rfl, rfl, rfl, rfl⟩ | rfl) ?_
                            refine DrO.data (by simp) rfl (by simp -implicitDefEqProofs [u8s, H1, g24, g28, g95, g98, g102] <;> rfl) (by simp -implicitDefEqProofs [u8s, H1, g24, g28, g95, g98, g102] <;> rfl) (by simp -implicitDefEqProofs [u8s, H1, g24, g28, g95, g98, g102] <;> rfl) call_11 (hf2) (by rfl) (by simp -implicitDefEqProofs [u8s, H1, g24, g28, g95, g98, g102] <;> rfl) ?_
                            refine DrO.run (fz := []) 1 (by simp -implicitDefEqProofs [u8s, H1, g24, g28, g95, g98, g102] <;> first | exact ⟨rfl, rfl, rfl, rfl⟩ | rfl) ?_
                            refine DrO.data (by simp) rfl (by simp -implicitDefEqProofs [u8s, H1, g24, g28, g95, g98, g102] <;> rfl) (by simp -implicitDefEqProofs [u8s, H1, g24, g28, g95, g98, g102] <;> rfl) (by simp -implicitDefEqProofs [u8s, H1, g24, g28, g95, g98, g102] <;> rfl) call_11 (hf) (by rfl) (by simp -implicitDefEqProofs [u8s, H1, g24, g28, g95, g98, g102] <;> rfl) ?_
                            refine DrO.data (by simp) rfl (by simp -implicitDefEqProofs [u8s, H1, g24, g28, g95, g98, g102] <;> rfl) (by simp -implicitDefEqProofs [u8s, H1, g24, g28, g95, g98, g102] <;> rfl) (by simp -implicitDefEqProofs [u8s, H1, g24, g28, g95, g98, g102] <;> rfl) call_15 (hsm) (by rfl) (by simp -implicitDefEqProofs [u8s, H1, g24, g28, g95, g98, g102] <;> rfl) ?_
                            refine DrO.run (fz := []) 3 (by simp -implicitDefEqProofs [u8s, H1, g24, g28, g95, g98, g102] <;> first | exact ⟨rfl, rfl, rfl, rfl⟩ | rfl) ?_
                            refine DrO.run (fz := []) 1 (by simp -implicitDefEqProofs [u8s, H1, g24, g28, g95, g98, g102] <;> first | exact ⟨rfl, rfl, rfl, rfl⟩ | rfl) ?_
                            refine DrO.splitB 111 (by simp -implicitDefEqProofs [u8s, H1, g24, g28, g95, g98, g102] <;> rfl) (by rfl) (fun g111 => ?_) (fun g111 => ?_)
                            · try (exfalso; revert g111; simp; done)
                              all_goals
                                have g111' := g111; first | simp only [dT, dF] at g111' | try simp at g111'
                                refine DrO.data (by simp) rfl (by simp -implicitDefEqProofs [u8s, H1, g24, g28, g95, g98, g102, g111] <;> rfl) (by simp -implicitDefEqProofs [u8s, H1, g24, g28, g95, g98, g102, g111] <;> rfl) (by simp -implicitDefEqProofs [u8s, H1, g24, g28, g95, g98, g102, g111] <;> rfl) call_8 (awake_ok) (by rfl) (by simp -implicitDefEqProofs [u8s, H1, g24, g28, g95, g98, g102, g111] <;> rfl) ?_
                                refine DrO.run (fz := []) 2 (by simp -implicitDefEqProofs [u8s, H1, g24, g28, g95, g98, g102, g111] <;> first | exact ⟨rfl, rfl, rfl, rfl⟩ | rfl) ?_
                                refine DrO.nil ⟨by kernel_rfl, ?_⟩
                                refine WpC.ret ?_
                                try simp only [blockQ, seqQ]
                                refine retD_i (by simp -implicitDefEqProofs [u8s, H1, g24, g28, g95, g98, g102, g111] <;> rfl) (by simp -implicitDefEqProofs [u8s, H1, g24, g28, g95, g98, g102, g111] <;> rfl) ?_
                                simp -implicitDefEqProofs [u8s, H1, g24, g28, g95, g98, g102, g111]
                            · try (exfalso; revert g111; simp; done)
                              all_goals
                                have g111' := g111; first | simp only [dT, dF] at g111' | try simp at g111'
                                refine DrO.run (fz := []) 3 (by simp -implicitDefEqProofs [u8s, H1, g24, g28, g95, g98, g102, g111] <;> first | exact ⟨rfl, rfl, rfl, rfl⟩ | rfl) ?_
                                refine DrO.nil ⟨by kernel_rfl, ?_⟩
                                refine WpC.ret ?_
                                try simp only [blockQ, seqQ]
                                refine retD_i (by simp -implicitDefEqProofs [u8s, H1, g24, g28, g95, g98, g102, g111] <;> rfl) (by simp -implicitDefEqProofs [u8s, H1, g24, g28, g95, g98, g102, g111] <;> rfl) ?_
                                simp -implicitDefEqProofs [u8s, H1, g24, g28, g95, g98, g102, g111]
                        · try (exfalso; revert g102; simp; done)
                          all_goals
                            have g102' := g102; first | simp only [dT, dF] at g102' | try simp at g102'
                            refine DrO.run (fz := []) 3 (by simp -implicitDefEqProofs [u8s, H1, g24, g28, g95, g98, g102] <;> first | exact ⟨rfl, rfl, rfl, rfl⟩ | rfl) ?_
                            refine DrO.run (fz := []) 3 (by simp -implicitDefEqProofs [u8s, H1, g24, g28, g95, g98, g102] <;> first | exact ⟨rfl, rfl, rfl, rfl⟩ | rfl) ?_
                            refine DrO.run (fz := []) 3 (by simp -implicitDefEqProofs [u8s, H1, g24, g28, g95, g98, g102] <;> first | exact ⟨rfl, rfl, rfl, rfl⟩ | rfl) ?_
                            refine DrO.run (fz := []) 3 (by simp -implicitDefEqProofs [u8s, H1, g24, g28, g95, g98, g102] <;> first | exact ⟨rfl, rfl, rfl, rfl⟩ | rfl) ?_
                            refine DrO.nil ⟨by kernel_rfl, ?_⟩
                            refine WpC.ret ?_
                            try simp only [blockQ, seqQ]
                            refine retD_i (by simp -implicitDefEqProofs [u8s, H1, g24, g28, g95, g98, g102] <;> rfl) (by simp -implicitDefEqProofs [u8s, H1, g24, g28, g95, g98, g102] <;> rfl) ?_
                            simp -implicitDefEqProofs [u8s, H1, g24, g28, g95, g98, g102]
                    · try (exfalso; revert g98; simp; done)
                      all_goals
                        have g98' := g98; first | simp only [dT, dF] at g98' | try simp at g98'
                        refine DrO.run (fz := []) 3 (by simp -implicitDefEqProofs [u8s, H1, g24, g28, g95, g98] <;> first | exact ⟨rfl, rfl, rfl, rfl⟩ | rfl) ?_
                        refine DrO.run (fz := []) 3 (by simp -implicitDefEqProofs [u8s, H1, g24, g28, g95, g98] <;> first | exact ⟨rfl, rfl, rfl, rfl⟩ | rfl) ?_
                        refine DrO.run (fz := []) 3 (by simp -implicitDefEqProofs [u8s, H1, g24, g28, g95, g98] <;> first | exact ⟨rfl, rfl, rfl, rfl⟩ | rfl) ?_
                        refine DrO.run (fz := []) 3 (by simp -implicitDefEqProofs [u8s, H1, g24, g28, g95, g98] <;> first | exact ⟨rfl, rfl, rfl, rfl⟩ | rfl) ?_
                        refine DrO.run (fz := []) 3 (by simp -implicitDefEqProofs [u8s, H1, g24, g28, g95, g98] <;> first | exact ⟨rfl, rfl, rfl, rfl⟩ | rfl) ?_
                        refine DrO.run (fz := []) 1 (by simp -implicitDefEqProofs [u8s, H1, g24, g28, g95, g98] <;> first | exact ⟨rfl, rfl, rfl, rfl⟩ | rfl) ?_
                        refine DrO.nil ⟨by kernel_rfl, ?_⟩
                        refine WpC.ret ?_
                        try simp only [blockQ, seqQ]
                        refine retD_i (by simp -implicitDefEqProofs [u8s, H1, g24, g28, g95, g98] <;> rfl) (by simp -implicitDefEqProofs [u8s, H1, g24, g28, g95, g98] <;> rfl) ?_
                        simp -implicitDefEqProofs [u8s, H1, g24, g28, g95, g98]
            · try (exfalso; revert g28; simp; done)
              all_goals
                have g28' := g28; first | simp only [dT, dF] at g28' | try simp at g28'
                refine WpO.run tabOk 3 (by simp -implicitDefEqProofs [u8s, H1, g24, g28] <;> first | exact ⟨rfl, rfl⟩ | rfl) ?_
                refine WpO.nil ?_
                refine WpC.condF (by simp -implicitDefEqProofs [u8s, H1, g24, g28] <;> rfl) ?_
                refine WpC.skip ?_
                refine qR (by simp -implicitDefEqProofs [u8s, H1, g24, g28] <;> rfl) ?_
                refine WpC.seq (WpC.drawn tabOk (by kernel_rfl) 1 (by simp) ?_)
                refine DrO.run (fz := []) 3 (by simp -implicitDefEqProofs [u8s, H1, g24, g28] <;> first | exact ⟨rfl, rfl, rfl, rfl⟩ | rfl) ?_
                refine DrO.run (fz := []) 3 (by simp -implicitDefEqProofs [u8s, H1, g24, g28] <;> first | exact ⟨rfl, rfl, rfl, rfl⟩ | rfl) ?_
                refine DrO.run (fz := []) 3 (by simp -implicitDefEqProofs [u8s, H1, g24, g28] <;> first | exact ⟨rfl, rfl, rfl, rfl⟩ | rfl) ?_
                refine DrO.run (fz := []) 3 (by simp -implicitDefEqProofs [u8s, H1, g24, g28] <;> first | exact ⟨rfl, rfl, rfl, rfl⟩ | rfl) ?_
                refine DrO.run (fz := []) 3 (by simp -implicitDefEqProofs [u8s, H1, g24, g28] <;> first | exact ⟨rfl, rfl, rfl, rfl⟩ | rfl) ?_
                refine DrO.run (fz := []) 2 (by simp -implicitDefEqProofs [u8s, H1, g24, g28] <;> first | exact ⟨rfl, rfl, rfl, rfl⟩ | rfl) ?_
                refine DrO.nil ⟨by kernel_rfl, ?_⟩
                refine WpC.seq ?_
                refine qR (by simp -implicitDefEqProofs [u8s, H1, g24, g28] <;> rfl) ?_
                refine WpC.condF (by simp -implicitDefEqProofs [u8s, H1, g24, g28] <;> rfl) ?_
                refine WpC.skip ?_
                refine WpC.seq ?_
                refine WpC.region ?_
                refine WpO.run tabOk 1 (by simp -implicitDefEqProofs [u8s, H1, g24, g28] <;> first | exact ⟨rfl, rfl⟩ | rfl) ?_
                refine WpO.data (by simp) rfl (by simp -implicitDefEqProofs [u8s, H1, g24, g28] <;> rfl) (by simp -implicitDefEqProofs [u8s, H1, g24, g28] <;> rfl) (by simp -implicitDefEqProofs [u8s, H1, g24, g28] <;> rfl) call_13 (by simp) (hrd) (by rfl) (by simp -implicitDefEqProofs [u8s, H1, g24, g28] <;> rfl) ?_
                refine WpO.run tabOk 6 (by simp -implicitDefEqProofs [u8s, H1, g24, g28] <;> first | exact ⟨rfl, rfl⟩ | rfl) ?_
                refine WpO.nil ?_
                refine WpC.seq ?_
                refine qR (by simp -implicitDefEqProofs [u8s, H1, g24, g28] <;> rfl) ?_
                refine WpC.condF (by simp -implicitDefEqProofs [u8s, H1, g24, g28] <;> rfl) ?_
                refine WpC.skip ?_
                refine WpC.seq ?_
                refine WpC.drawn tabOk (by kernel_rfl) 0 (by simp) ?_
                refine DrO.run (fz := []) 3 (by simp -implicitDefEqProofs [u8s, H1, g24, g28] <;> first | exact ⟨rfl, rfl, rfl, rfl⟩ | rfl) ?_
                refine DrO.splitB 95 (by simp -implicitDefEqProofs [u8s, H1, g24, g28] <;> rfl) (by rfl) (fun g95 => ?_) (fun g95 => ?_)
                · try (exfalso; revert g95; simp; done)
                  all_goals
                    have g95' := g95; first | simp only [dT, dF] at g95' | try simp at g95'
                    refine DrO.run (fz := []) 3 (by simp -implicitDefEqProofs [u8s, H1, g24, g28, g95] <;> first | exact ⟨rfl, rfl, rfl, rfl⟩ | rfl) ?_
                    refine DrO.run (fz := []) 3 (by simp -implicitDefEqProofs [u8s, H1, g24, g28, g95] <;> first | exact ⟨rfl, rfl, rfl, rfl⟩ | rfl) ?_
                    refine DrO.run (fz := []) 3 (by simp -implicitDefEqProofs [u8s, H1, g24, g28, g95] <;> first | exact ⟨rfl, rfl, rfl, rfl⟩ | rfl) ?_
                    refine DrO.run (fz := []) 3 (by simp -implicitDefEqProofs [u8s, H1, g24, g28, g95] <;> first | exact ⟨rfl, rfl, rfl, rfl⟩ | rfl) ?_
                    refine DrO.run (fz := []) 3 (by simp -implicitDefEqProofs [u8s, H1, g24, g28, g95] <;> first | exact ⟨rfl, rfl, rfl, rfl⟩ | rfl) ?_
                    refine DrO.run (fz := []) 1 (by simp -implicitDefEqProofs [u8s, H1, g24, g28, g95] <;> first | exact ⟨rfl, rfl, rfl, rfl⟩ | rfl) ?_
                    refine DrO.data (by simp) rfl (by simp -implicitDefEqProofs [u8s, H1, g24, g28, g95] <;> rfl) (by simp -implicitDefEqProofs [u8s, H1, g24, g28, g95] <;> rfl) (by simp -implicitDefEqProofs [u8s, H1, g24, g28, g95] <;> rfl) call_8 (awake_ok) (by rfl) (by simp -implicitDefEqProofs [u8s, H1, g24, g28, g95] <;> rfl) ?_
                    refine DrO.run (fz := []) 2 (by simp -implicitDefEqProofs [u8s, H1, g24, g28, g95] <;> first | exact ⟨rfl, rfl, rfl, rfl⟩ | rfl) ?_
                    refine DrO.nil ⟨by kernel_rfl, ?_⟩
                    refine WpC.ret ?_
                    try simp only [blockQ, seqQ]
                    refine retD_i (by simp -implicitDefEqProofs [u8s, H1, g24, g28, g95] <;> rfl) (by simp -implicitDefEqProofs [u8s, H1, g24, g28, g95] <;> rfl) ?_
                    simp -implicitDefEqProofs [u8s, H1, g24, g28, g95]
                · try (exfalso; revert g95; simp; done)
                  all_goals
                    have g95' := g95; first | simp only [dT, dF] at g95' | try simp at g95'
                    refine DrO.run (fz := []) 3 (by simp -implicitDefEqProofs [u8s, H1, g24, g28, g95] <;> first | exact ⟨rfl, rfl, rfl, rfl⟩ | rfl) ?_
                    refine DrO.splitB 98 (by simp -implicitDefEqProofs [u8s, H1, g24, g28, g95] <;> rfl) (by rfl) (fun g98 => ?_) (fun g98 => ?_)
                    · try (exfalso; revert g98; simp; done)
                      all_goals
                        have g98' := g98; first | simp only [dT, dF] at g98' | try simp at g98'
                        refine DrO.run (fz := []) 3 (by simp -implicitDefEqProofs [u8s, H1, g24, g28, g95, g98] <;> first | exact ⟨rfl, rfl, rfl, rfl⟩ | rfl) ?_
                        refine DrO.run (fz := []) 1 (by simp -implicitDefEqProofs [u8s, H1, g24, g28, g95, g98] <;> first | exact ⟨rfl, rfl, rfl, rfl⟩ | rfl) ?_
                        refine DrO.splitB 102 (by simp -implicitDefEqProofs [u8s, H1, g24, g28, g95, g98] <;> rfl) (by rfl) (fun g102 => ?_) (fun g102 => ?_)
                        · try (exfalso; revert g102; simp; done)
                          all_goals
                            have g102' := g102; first | simp only [dT, dF] at g102' | try simp at g102'
                            refine DrO.run (fz := []) 1 (by simp -implicitDefEqProofs [u8s, H1, g24, g28, g95, g98, g102] <;> first | exact ⟨rfl, rfl, rfl, rfl⟩ | rfl) ?_
                            refine DrO.data (by simp) rfl (by simp -implicitDefEqProofs [u8s, H1, g24, g28, g95, g98, g102] <;> rfl) (by simp -implicitDefEqProofs [u8s, H1, g24, g28, g95, g98, g102] <;> rfl) (by simp -implicitDefEqProofs [u8s, H1, g24, g28, g95, g98, g102] <;> rfl) call_11 (hf2) (by rfl) (by simp -implicitDefEqProofs [u8s, H1, g24, g28, g95, g98, g102] <;> rfl) ?_
                            refine DrO.run (fz := []) 1 (by simp -implicitDefEqProofs [u8s, H1, g24, g28, g95, g98, g102] <;> first | exact ⟨rfl, rfl, rfl, rfl⟩ | rfl) ?_
                            refine DrO.data (by simp) rfl (by simp -implicitDefEqProofs [u8s, H1, g24, g28, g95, g98, g102] <;> rfl) (by simp -implicitDefEqProofs [u8s, H1, g24, g28, g95, g98, g102] <;> rfl) (by simp -implicitDefEqProofs [u8s, H1, g24, g28, g95, g98, g102] <;> rfl) call_11 (hf) (by rfl) (by simp -implicitDefEqProofs [u8s, H1, g24, g28, g95, g98, g102] <;> rfl) ?_
                            refine DrO.data (by simp) rfl (by simp -implicitDefEqProofs [u8s, H1, g24, g28, g95, g98, g102] <;> rfl) (by simp -implicitDefEqProofs [u8s, H1, g24, g28, g95, g98, g102] <;> rfl) (by simp -implicitDefEqProofs [u8s, H1, g24, g28, g95, g98, g102] <;> rfl) call_15 (hsm) (by rfl) (by simp -implicitDefEqProofs [u8s, H1, g24, g28, g95, g98, g102] <;> rfl) ?_
                            refine DrO.run (fz := []) 3 (by simp -implicitDefEqProofs [u8s, H1, g24, g28, g95, g98, g102] <;> first | exact ⟨rfl, rfl, rfl, rfl⟩ | rfl) ?_
                            refine DrO.run (fz := []) 1 (by simp -implicitDefEqProofs [u8s, H1, g24, g28, g95, g98, g102] <;> first | exact ⟨rfl, rfl, rfl, rfl⟩ | rfl) ?_
                            refine DrO.splitB 111 (by simp -implicitDefEqProofs [u8s, H1, g24, g28, g95, g98, g102] <;> rfl) (by rfl) (fun g111 => ?_) (fun g111 => ?_)
                            · try (exfalso; revert g111; simp; done)
                              all_goals
                                have g111' := g111; first | simp only [dT, dF] at g111' | try simp at g111'
                                refine DrO.data (by simp) rfl (by simp -implicitDefEqProofs [u8s, H1, g24, g28, g95, g98, g102, g111] <;> rfl) (by simp -implicitDefEqProofs [u8s, H1, g24, g28, g95, g98, g102, g111] <;> rfl) (by simp -implicitDefEqProofs [u8s, H1, g24, g28, g95, g98, g102, g111] <;> rfl) call_8 (awake_ok) (by rfl) (by simp -implicitDefEqProofs [u8s, H1, g24, g28, g95, g98, g102, g111] <;> rfl) ?_
                                refine DrO.run (fz := []) 2 (by simp -implicitDefEqProofs [u8s, H1, g24, g28, g95, g98, g102, g111] <;> first | exact ⟨rfl, rfl, rfl, rfl⟩ | rfl) ?_
                                refine DrO.nil ⟨by kernel_rfl, ?_⟩
                                refine WpC.ret ?_
                                try simp only [blockQ, seqQ]
                                refine retD_i (by simp -implicitDefEqProofs [u8s, H1, g24, g28, g95, g98, g102, g111] <;> rfl) (by simp -implicitDefEqProofs [u8s, H1, g24, g28, g95, g98, g102, g111] <;> rfl) ?_
                                simp -implicitDefEqProofs [u8s, H1, g24, g28, g95, g98, g102, g111]
                            · try (exfalso; revert g111; simp; done)
                              all_goals
                                have g111' := g111; first | simp only [dT, dF] at g111' | try simp at g111'
                                refine DrO.run (fz := []) 3 (by simp -implicitDefEqProofs [u8s, H1, g24, g28, g95, g98, g102, g111] <;> first | exact ⟨rfl, rfl, rfl, rfl⟩ | rfl) ?_
                                refine DrO.nil ⟨by kernel_rfl, ?_⟩
                                refine WpC.ret ?_
                                try simp only [blockQ, seqQ]
                                refine retD_i (by simp -implicitDefEqProofs [u8s, H1, g24, g28, g95, g98, g102, g111] <;> rfl) (by simp -implicitDefEqProofs [u8s, H1, g24, g28, g95, g98, g102, g111] <;> rfl) ?_
                                simp -implicitDefEqProofs [u8s, H1, g24, g28, g95, g98, g102, g111]
                        · try (exfalso; revert g102; simp; done)
                          all_goals
                            have g102' := g102; first | simp only [dT, dF] at g102' | try simp at g102'
                            refine DrO.run (fz := []) 3 (by simp -implicitDefEqProofs [u8s, H1, g24, g28, g95, g98, g102] <;> first | exact ⟨rfl, rfl, rfl, rfl⟩ | rfl) ?_
                            refine DrO.run (fz := []) 3 (by simp -implicitDefEqProofs [u8s, H1, g24, g28, g95, g98, g102] <;> first | exact ⟨rfl, rfl, rfl, rfl⟩ | rfl) ?_
                            refine DrO.run (fz := []) 3 (by simp -implicitDefEqProofs [u8s, H1, g24, g28, g95, g98, g102] <;> first | exact ⟨rfl, rfl, rfl, rfl⟩ | rfl) ?_
                            refine DrO.run (fz := []) 3 (by simp -implicitDefEqProofs [u8s, H1, g24, g28, g95, g98, g102] <;> first | exact ⟨rfl, rfl, rfl, rfl⟩ | rfl) ?_
                            refine DrO.nil ⟨by kernel_rfl, ?_⟩
                            refine WpC.ret ?_
                            try simp only [blockQ, seqQ]
                            refine retD_i (by simp -implicitDefEqProofs [u8s, H1, g24, g28, g95, g98, g102] <;> rfl) (by simp -implicitDefEqProofs [u8s, H1, g24, g28, g95, g98, g102] <;> rfl) ?_
                            simp -implicitDefEqProofs [u8s, H1, g24, g28, g95, g98, g102]
                    · try (exfalso; revert g98; simp; done)
                      all_goals
                        have g98' := g98; first | simp only [dT, dF] at g98' | try simp at g98'
                        refine DrO.run (fz := []) 3 (by simp -implicitDefEqProofs [u8s, H1, g24, g28, g95, g98] <;> first | exact ⟨rfl, rfl, rfl, rfl⟩ | rfl) ?_
                        refine DrO.run (fz := []) 3 (by simp -implicitDefEqProofs [u8s, H1, g24, g28, g95, g98] <;> first | exact ⟨rfl, rfl, rfl, rfl⟩ | rfl) ?_
                        refine DrO.run (fz := []) 3 (by simp -implicitDefEqProofs [u8s, H1, g24, g28, g95, g98] <;> first | exact ⟨rfl, rfl, rfl, rfl⟩ | rfl) ?_
                        refine DrO.run (fz := []) 3 (by simp -implicitDefEqProofs [u8s, H1, g24, g28, g95, g98] <;> first | exact ⟨rfl, rfl, rfl, rfl⟩ | rfl) ?_
                        refine DrO.run (fz := []) 3 (by simp -implicitDefEqProofs [u8s, H1, g24, g28, g95, g98] <;> first | exact ⟨rfl, rfl, rfl, rfl⟩ | rfl) ?_
                        refine DrO.run (fz := []) 1 (by simp -implicitDefEqProofs [u8s, H1, g24, g28, g95, g98] <;> first | exact ⟨rfl, rfl, rfl, rfl⟩ | rfl) ?_
                        refine DrO.nil ⟨by kernel_rfl, ?_⟩
                        refine WpC.ret ?_
                        try simp only [blockQ, seqQ]
                        refine retD_i (by simp -implicitDefEqProofs [u8s, H1, g24, g28, g95, g98] <;> rfl) (by simp -implicitDefEqProofs [u8s, H1, g24, g28, g95, g98] <;> rfl) ?_
                        simp -implicitDefEqProofs [u8s, H1, g24, g28, g95, g98]
  | true =>
    obtain ⟨t, ht⟩ : ∃ t, A ++ B = t := ⟨_, rfl⟩
    have htl : t.length = N - 1 := by rw [← ht, List.length_append, hAl, hBl]; omega
    have hrd := hrd0 t (by omega)
    have hq : (t == T) = false := by
      simp only [beq_eq_false_iff_ne, ne_eq]
      intro e; rw [e] at htl; omega
    cases hrr : readR t with
    | none =>
      rw [hrr] at hrd
      simp only [encR] at hrd
      refine Gives.enter tabOk Tryd.func5 rfl (by show 4 ≤ 114; decide) ?_
      simp only [Tryd.f5]
      have H1 := And.intro k2 (And.intro hN (And.intro hT0 (And.intro w1 (And.intro hi (And.intro hN0 (And.intro w2 (And.intro k3 (And.intro k4 (And.intro hc (And.intro hx (And.intro hA (And.intro hB (And.intro hAl (And.intro hBl (And.intro b1 (And.intro b2 (And.intro b3 (And.intro hBB (And.intro hiT (And.intro k8 (And.intro ht hq)))))))))))))))))))))
      refine qR (by simp -implicitDefEqProofs [u8s, H1] <;> rfl) ?_
      refine WpC.seq ?_
      refine WpC.region ?_
      refine WpO.run tabOk 1 (by simp -implicitDefEqProofs [u8s, H1] <;> first | exact ⟨rfl, rfl⟩ | rfl) ?_
      refine WpO.data (by simp) rfl (by simp -implicitDefEqProofs [u8s, H1] <;> rfl) (by simp -implicitDefEqProofs [u8s, H1] <;> rfl) (by simp -implicitDefEqProofs [u8s, H1] <;> rfl) call_9 (by simp) (hw) (by rfl) (by simp -implicitDefEqProofs [u8s, H1] <;> rfl) ?_
      refine WpO.run tabOk 5 (by simp -implicitDefEqProofs [u8s, H1] <;> first | exact ⟨rfl, rfl⟩ | rfl) ?_
      refine WpO.nil ?_
      refine WpC.seq ?_
      refine WpC.seq ?_
      refine WpC.region ?_
      refine WpO.run tabOk 5 (by simp -implicitDefEqProofs [u8s, H1] <;> first | exact ⟨rfl, rfl⟩ | rfl) ?_
      refine WpO.splitB 24 (by simp -implicitDefEqProofs [u8s, H1] <;> rfl) (by rfl) (fun g24 => ?_) (fun g24 => ?_)
      · try (exfalso; revert g24; simp; done)
        all_goals
          have g24' := g24; first | simp only [dT, dF] at g24' | try simp at g24'
          refine WpO.run tabOk 7 (by simp -implicitDefEqProofs [u8s, H1, g24] <;> first | exact ⟨rfl, rfl⟩ | rfl) ?_
          refine WpO.nil ?_
          refine WpC.condF (by simp -implicitDefEqProofs [u8s, H1, g24] <;> rfl) ?_
          refine WpC.skip ?_
          refine qR (by simp -implicitDefEqProofs [u8s, H1, g24] <;> rfl) ?_
          refine WpC.seq (WpC.drawn tabOk (by kernel_rfl) 1 (by simp) ?_)
          refine DrO.run (fz := []) 3 (by simp -implicitDefEqProofs [u8s, H1, g24] <;> first | exact ⟨rfl, rfl, rfl, rfl⟩ | rfl) ?_
          refine DrO.run (fz := []) 3 (by simp -implicitDefEqProofs [u8s, H1, g24] <;> first | exact ⟨rfl, rfl, rfl, rfl⟩ | rfl) ?_
          refine DrO.run (fz := []) 3 (by simp -implicitDefEqProofs [u8s, H1, g24] <;> first | exact ⟨rfl, rfl, rfl, rfl⟩ | rfl) ?_
          refine DrO.run (fz := []) 3 (by simp -implicitDefEqProofs [u8s, H1, g24] <;> first | exact ⟨rfl, rfl, rfl, rfl⟩ | rfl) ?_
          refine DrO.run (fz := []) 3 (by simp -implicitDefEqProofs [u8s, H1, g24] <;> first | exact ⟨rfl, rfl, rfl, rfl⟩ | rfl) ?_
          refine DrO.run (fz := []) 2 (by simp -implicitDefEqProofs [u8s, H1, g24] <;> first | exact ⟨rfl, rfl, rfl, rfl⟩ | rfl) ?_
          refine DrO.nil ⟨by kernel_rfl, ?_⟩
          refine WpC.seq ?_
          refine qR (by simp -implicitDefEqProofs [u8s, H1, g24] <;> rfl) ?_
          refine WpC.condT (by simp -implicitDefEqProofs [u8s, H1, g24] <;> rfl) ?_
          refine WpC.drawn tabOk (by kernel_rfl) 0 (by simp) ?_
          refine DrO.run (fz := []) 3 (by simp -implicitDefEqProofs [u8s, H1, g24] <;> first | exact ⟨rfl, rfl, rfl, rfl⟩ | rfl) ?_
          refine DrO.run (fz := []) 3 (by simp -implicitDefEqProofs [u8s, H1, g24] <;> first | exact ⟨rfl, rfl, rfl, rfl⟩ | rfl) ?_
          refine DrO.run (fz := []) 3 (by simp -implicitDefEqProofs [u8s, H1, g24] <;> first | exact ⟨rfl, rfl, rfl, rfl⟩ | rfl) ?_
          refine DrO.nil ⟨by kernel_rfl, ?_⟩
          refine WpC.seq ?_
          refine WpC.region ?_
          refine WpO.run tabOk 1 (by simp -implicitDefEqProofs [u8s, H1, g24] <;> first | exact ⟨rfl, rfl⟩ | rfl) ?_
          refine WpO.data (by simp) rfl (by simp -implicitDefEqProofs [u8s, H1, g24] <;> rfl) (by simp -implicitDefEqProofs [u8s, H1, g24] <;> rfl) (by simp -implicitDefEqProofs [u8s, H1, g24] <;> rfl) call_13 (by simp) (hrd) (by rfl) (by simp -implicitDefEqProofs [u8s, H1, g24] <;> rfl) ?_
          refine WpO.run tabOk 6 (by simp -implicitDefEqProofs [u8s, H1, g24] <;> first | exact ⟨rfl, rfl⟩ | rfl) ?_
          refine WpO.nil ?_
          refine WpC.seq ?_
          refine qR (by simp -implicitDefEqProofs [u8s, H1, g24] <;> rfl) ?_
          refine WpC.condF (by simp -implicitDefEqProofs [u8s, H1, g24] <;> rfl) ?_
          refine WpC.skip ?_
          refine WpC.seq ?_
          refine WpC.drawn tabOk (by kernel_rfl) 0 (by simp) ?_
          refine DrO.run (fz := []) 3 (by simp -implicitDefEqProofs [u8s, H1, g24] <;> first | exact ⟨rfl, rfl, rfl, rfl⟩ | rfl) ?_
          refine DrO.splitB 95 (by simp -implicitDefEqProofs [u8s, H1, g24] <;> rfl) (by rfl) (fun g95 => ?_) (fun g95 => ?_)
          · try (exfalso; revert g95; simp; done)
            all_goals
              have g95' := g95; first | simp only [dT, dF] at g95' | try simp at g95'
              refine DrO.run (fz := []) 3 (by simp -implicitDefEqProofs [u8s, H1, g24, g95] <;> first | exact ⟨rfl, rfl, rfl, rfl⟩ | rfl) ?_
              refine DrO.run (fz := []) 3 (by simp -implicitDefEqProofs [u8s, H1, g24, g95] <;> first | exact ⟨rfl, rfl, rfl, rfl⟩ | rfl) ?_
              refine DrO.run (fz := []) 3 (by simp -implicitDefEqProofs [u8s, H1, g24, g95] <;> first | exact ⟨rfl, rfl, rfl, rfl⟩ | rfl) ?_
              refine DrO.run (fz := []) 3 (by simp -implicitDefEqProofs [u8s, H1, g24, g95] <;> first | exact ⟨rfl, rfl, rfl, rfl⟩ | rfl) ?_
              refine DrO.run (fz := []) 3 (by simp -implicitDefEqProofs [u8s, H1, g24, g95] <;> first | exact ⟨rfl, rfl, rfl, rfl⟩ | rfl) ?_
              refine DrO.run (fz := []) 1 (by simp -implicitDefEqProofs [u8s, H1, g24, g95] <;> first | exact ⟨rfl, rfl, rfl, rfl⟩ | rfl) ?_
              refine DrO.data (by simp) rfl (by simp -implicitDefEqProofs [u8s, H1, g24, g95] <;> rfl) (by simp -implicitDefEqProofs [u8s, H1, g24, g95] <;> rfl) (by simp -implicitDefEqProofs [u8s, H1, g24, g95] <;> rfl) call_8 (awake_ok) (by rfl) (by simp -implicitDefEqProofs [u8s, H1, g24, g95] <;> rfl) ?_
              refine DrO.run (fz := []) 2 (by simp -implicitDefEqProofs [u8s, H1, g24, g95] <;> first | exact ⟨rfl, rfl, rfl, rfl⟩ | rfl) ?_
              refine DrO.nil ⟨by kernel_rfl, ?_⟩
              refine WpC.ret ?_
              try simp only [blockQ, seqQ]
              refine retD_i (by simp -implicitDefEqProofs [u8s, H1, g24, g95] <;> rfl) (by simp -implicitDefEqProofs [u8s, H1, g24, g95] <;> rfl) ?_
              simp -implicitDefEqProofs [u8s, H1, g24, g95]
          · try (exfalso; revert g95; simp; done)
            all_goals
              have g95' := g95; first | simp only [dT, dF] at g95' | try simp at g95'
              refine DrO.run (fz := []) 3 (by simp -implicitDefEqProofs [u8s, H1, g24, g95] <;> first | exact ⟨rfl, rfl, rfl, rfl⟩ | rfl) ?_
              refine DrO.splitB 98 (by simp -implicitDefEqProofs [u8s, H1, g24, g95] <;> rfl) (by rfl) (fun g98 => ?_) (fun g98 => ?_)
              · try (exfalso; revert g98; simp; done)
                all_goals
                  have g98' := g98; first | simp only [dT, dF] at g98' | try simp at g98'
                  refine DrO.run (fz := []) 3 (by simp -implicitDefEqProofs [u8s, H1, g24, g95, g98] <;> first | exact ⟨rfl, rfl, rfl, rfl⟩ | rfl) ?_
                  refine DrO.run (fz := []) 1 (by simp -implicitDefEqProofs [u8s, H1, g24, g95, g98] <;> first | exact ⟨rfl, rfl, rfl, rfl⟩ | rfl) ?_
                  refine DrO.splitB 102 (by simp -implicitDefEqProofs [u8s, H1, g24, g95, g98] <;> rfl) (by rfl) (fun g102 => ?_) (fun g102 => ?_)
                  · try (exfalso; revert g102; simp; done)
                    all_goals
                      have g102' := g102; first | simp only [dT, dF] at g102' | try simp at g102'
                      refine DrO.run (fz := []) 1 (by simp -implicitDefEqProofs [u8s, H1, g24, g95, g98, g102] <;> first | exact ⟨rfl, rfl, rfl, rfl⟩ | rfl) ?_
                      contradiction
                      refine DrO.run (fz := []) 1 (by simp -implicitDefEqProofs [u8s, H1, g24, g95, g98, g102] <;> first | exact ⟨rfl, rfl, rfl, rfl⟩ | rfl) ?_
                      contradiction
                      contradiction
                      refine DrO.run (fz := []) 3 (by simp -implicitDefEqProofs [u8s, H1, g24, g95, g98, g102] <;> first | exact ⟨rfl, rfl, rfl, rfl⟩ | rfl) ?_
                      refine DrO.run (fz := []) 1 (by simp -implicitDefEqProofs [u8s, H1, g24, g95, g98, g102] <;> first | exact ⟨rfl, rfl, rfl, rfl⟩ | rfl) ?_
                      refine DrO.splitB 111 (by simp -implicitDefEqProofs [u8s, H1, g24, g95, g98, g102] <;> rfl) (by rfl) (fun g111 => ?_) (fun g111 => ?_)
                      · try (exfalso; revert g111; simp; done)
                        all_goals
                          have g111' := g111; first | simp only [dT, dF] at g111' | try simp at g111'
                          refine DrO.data (by simp) rfl (by simp -implicitDefEqProofs [u8s, H1, g24, g95, g98, g102, g111] <;> rfl) (by simp -implicitDefEqProofs [u8s, H1, g24, g95, g98, g102, g111] <;> rfl) (by simp -implicitDefEqProofs [u8s, H1, g24, g95, g98, g102, g111] <;> rfl) call_8 (awake_ok) (by rfl) (by simp -implicitDefEqProofs [u8s, H1, g24, g95, g98, g102, g111] <;> rfl) ?_
                          refine DrO.run (fz := []) 2 (by simp -implicitDefEqProofs [u8s, H1, g24, g95, g98, g102, g111] <;> first | exact ⟨rfl, rfl, rfl, rfl⟩ | rfl) ?_
                          refine DrO.nil ⟨by kernel_rfl, ?_⟩
                          refine WpC.ret ?_
                          try simp only [blockQ, seqQ]
                          refine retD_i (by simp -implicitDefEqProofs [u8s, H1, g24, g95, g98, g102, g111] <;> rfl) (by simp -implicitDefEqProofs [u8s, H1, g24, g95, g98, g102, g111] <;> rfl) ?_
                          simp -implicitDefEqProofs [u8s, H1, g24, g95, g98, g102, g111]
                      · try (exfalso; revert g111; simp; done)
                        all_goals
                          have g111' := g111; first | simp only [dT, dF] at g111' | try simp at g111'
                          refine DrO.run (fz := []) 3 (by simp -implicitDefEqProofs [u8s, H1, g24, g95, g98, g102, g111] <;> first | exact ⟨rfl, rfl, rfl, rfl⟩ | rfl) ?_
                          refine DrO.nil ⟨by kernel_rfl, ?_⟩
                          refine WpC.ret ?_
                          try simp only [blockQ, seqQ]
                          refine retD_i (by simp -implicitDefEqProofs [u8s, H1, g24, g95, g98, g102, g111] <;> rfl) (by simp -implicitDefEqProofs [u8s, H1, g24, g95, g98, g102, g111] <;> rfl) ?_
                          simp -implicitDefEqProofs [u8s, H1, g24, g95, g98, g102, g111]
                  · try (exfalso; revert g102; simp; done)
                    all_goals
                      have g102' := g102; first | simp only [dT, dF] at g102' | try simp at g102'
                      refine DrO.run (fz := []) 3 (by simp -implicitDefEqProofs [u8s, H1, g24, g95, g98, g102] <;> first | exact ⟨rfl, rfl, rfl, rfl⟩ | rfl) ?_
                      refine DrO.run (fz := []) 3 (by simp -implicitDefEqProofs [u8s, H1, g24, g95, g98, g102] <;> first | exact ⟨rfl, rfl, rfl, rfl⟩ | rfl) ?_
                      refine DrO.run (fz := []) 3 (by simp -implicitDefEqProofs [u8s, H1, g24, g95, g98, g102] <;> first | exact ⟨rfl, rfl, rfl, rfl⟩ | rfl) ?_
                      refine DrO.run (fz := []) 3 (by simp -implicitDefEqProofs [u8s, H1, g24, g95, g98, g102] <;> first | exact ⟨rfl, rfl, rfl, rfl⟩ | rfl) ?_
                      refine DrO.nil ⟨by kernel_rfl, ?_⟩
                      refine WpC.ret ?_
                      try simp only [blockQ, seqQ]
                      refine retD_i (by simp -implicitDefEqProofs [u8s, H1, g24, g95, g98, g102] <;> rfl) (by simp -implicitDefEqProofs [u8s, H1, g24, g95, g98, g102] <;> rfl) ?_
                      simp -implicitDefEqProofs [u8s, H1, g24, g95, g98, g102]
              · try (exfalso; revert g98; simp; done)
                all_goals
                  have g98' := g98; first | simp only [dT, dF] at g98' | try simp at g98'
                  refine DrO.run (fz := []) 3 (by simp -implicitDefEqProofs [u8s, H1, g24, g95, g98] <;> first | exact ⟨rfl, rfl, rfl, rfl⟩ | rfl) ?_
                  refine DrO.run (fz := []) 3 (by simp -implicitDefEqProofs [u8s, H1, g24, g95, g98] <;> first | exact ⟨rfl, rfl, rfl, rfl⟩ | rfl) ?_
                  refine DrO.run (fz := []) 3 (by simp -implicitDefEqProofs [u8s, H1, g24, g95, g98] <;> first | exact ⟨rfl, rfl, rfl, rfl⟩ | rfl) ?_
                  refine DrO.run (fz := []) 3 (by simp -implicitDefEqProofs [u8s, H1, g24, g95, g98] <;> first | exact ⟨rfl, rfl, rfl, rfl⟩ | rfl) ?_
                  refine DrO.run (fz := []) 3 (by simp -implicitDefEqProofs [u8s, H1, g24, g95, g98] <;> first | exact ⟨rfl, rfl, rfl, rfl⟩ | rfl) ?_
                  refine DrO.run (fz := []) 1 (by simp -implicitDefEqProofs [u8s, H1, g24, g95, g98] <;> first | exact ⟨rfl, rfl, rfl, rfl⟩ | rfl) ?_
                  refine DrO.nil ⟨by kernel_rfl, ?_⟩
                  refine WpC.ret ?_
                  try simp only [blockQ, seqQ]
                  refine retD_i (by simp -implicitDefEqProofs [u8s, H1, g24, g95, g98] <;> rfl) (by simp -implicitDefEqProofs [u8s, H1, g24, g95, g98] <;> rfl) ?_
                  simp -implicitDefEqProofs [u8s, H1, g24, g95, g98]
      · try (exfalso; revert g24; simp; done)
        all_goals
          have g24' := g24; first | simp only [dT, dF] at g24' | try simp at g24'
          refine WpO.run tabOk 4 (by simp -implicitDefEqProofs [u8s, H1, g24] <;> first | exact ⟨rfl, rfl⟩ | rfl) ?_
          refine WpO.splitB 28 (by simp -implicitDefEqProofs [u8s, H1, g24] <;> rfl) (by rfl) (fun g28 => ?_) (fun g28 => ?_)
          · try (exfalso; revert g28; simp; done)
            all_goals
              have g28' := g28; first | simp only [dT, dF] at g28' | try simp at g28'
              refine WpO.run tabOk 3 (by simp -implicitDefEqProofs [u8s, H1, g24, g28] <;> first | exact ⟨rfl, rfl⟩ | rfl) ?_
              refine WpO.nil ?_
              refine WpC.condF (by simp -implicitDefEqProofs [u8s, H1, g24, g28] <;> rfl) ?_
              refine WpC.skip ?_
              refine qR (by simp -implicitDefEqProofs [u8s, H1, g24, g28] <;> rfl) ?_
              refine WpC.seq (WpC.drawn tabOk (by kernel_rfl) 1 (by simp) ?_)
              refine DrO.run (fz := []) 3 (by simp -implicitDefEqProofs [u8s, H1, g24, g28] <;> first | exact ⟨rfl, rfl, rfl, rfl⟩ | rfl) ?_
              refine DrO.run (fz := []) 3 (by simp -implicitDefEqProofs [u8s, H1, g24, g28] <;> first | exact ⟨rfl, rfl, rfl, rfl⟩ | rfl) ?_
              refine DrO.run (fz := []) 3 (by simp -implicitDefEqProofs [u8s, H1, g24, g28] <;> first | exact ⟨rfl, rfl, rfl, rfl⟩ | rfl) ?_
              refine DrO.run (fz := []) 3 (by simp -implicitDefEqProofs [u8s, H1, g24, g28] <;> first | exact ⟨rfl, rfl, rfl, rfl⟩ | rfl) ?_
              refine DrO.run (fz := []) 3 (by simp -implicitDefEqProofs [u8s, H1, g24, g28] <;> first | exact ⟨rfl, rfl, rfl, rfl⟩ | rfl) ?_
              refine DrO.run (fz := []) 2 (by simp -implicitDefEqProofs [u8s, H1, g24, g28] <;> first | exact ⟨rfl, rfl, rfl, rfl⟩ | rfl) ?_
              refine DrO.nil ⟨by kernel_rfl, ?_⟩
              refine WpC.seq ?_
              refine qR (by simp -implicitDefEqProofs [u8s, H1, g24, g28] <;> rfl) ?_
              refine WpC.condT (by simp -implicitDefEqProofs [u8s, H1, g24, g28] <;> rfl) ?_
              refine WpC.drawn tabOk (by kernel_rfl) 0 (by simp) ?_
              refine DrO.run (fz := []) 3 (by simp -implicitDefEqProofs [u8s, H1, g24, g28] <;> first | exact ⟨rfl, rfl, rfl, rfl⟩ | rfl) ?_
              refine DrO.run (fz := []) 3 (by simp -implicitDefEqProofs [u8s, H1, g24, g28] <;> first | exact ⟨rfl, rfl, rfl, rfl⟩ | rfl) ?_
              refine DrO.run (fz := []) 3 (by simp -implicitDefEqProofs [u8s, H1, g24, g28] <;> first | exact ⟨rfl, rfl, rfl, rfl⟩ | rfl) ?_
              refine DrO.nil ⟨by kernel_rfl, ?_⟩
              refine WpC.seq ?_
              refine WpC.region ?_
              refine WpO.run tabOk 1 (by simp -implicitDefEqProofs [u8s, H1, g24, g28] <;> first | exact ⟨rfl, rfl⟩ | rfl) ?_
              refine WpO.data (by simp) rfl (by simp -implicitDefEqProofs [u8s, H1, g24, g28] <;> rfl) (by simp -implicitDefEqProofs [u8s, H1, g24, g28] <;> rfl) (by simp -implicitDefEqProofs [u8s, H1, g24, g28] <;> rfl) call_13 (by simp) (hrd) (by rfl) (by simp -implicitDefEqProofs [u8s, H1, g24, g28] <;> rfl) ?_
              refine WpO.run tabOk 6 (by simp -implicitDefEqProofs [u8s, H1, g24, g28] <;> first | exact ⟨rfl, rfl⟩ | rfl) ?_
              refine WpO.nil ?_
              refine WpC.seq ?_
              refine qR (by simp -implicitDefEqProofs [u8s, H1, g24, g28] <;> rfl) ?_
              refine WpC.condF (by simp -implicitDefEqProofs [u8s, H1, g24, g28] <;> rfl) ?_
              refine WpC.skip ?_
              refine WpC.seq ?_
              refine WpC.drawn tabOk (by kernel_rfl) 0 (by simp) ?_
              refine DrO.run (fz := []) 3 (by simp -implicitDefEqProofs [u8s, H1, g24, g28] <;> first | exact ⟨rfl, rfl, rfl, rfl⟩ | rfl) ?_
              refine DrO.splitB 95 (by simp -implicitDefEqProofs [u8s, H1, g24, g28] <;> rfl) (by rfl) (fun g95 => ?_) (fun g95 => ?_)
              · try (exfalso; revert g95; simp; done)
                all_goals
                  have g95' := g95; first | simp only [dT, dF] at g95' | try simp at g95'
                  refine DrO.run (fz := []) 3 (by simp -implicitDefEqProofs [u8s, H1, g24, g28, g95] <;> first | exact ⟨rfl, rfl, rfl, rfl⟩ | rfl) ?_
                  refine DrO.run (fz := []) 3 (by simp -implicitDefEqProofs [u8s, H1, g24, g28, g95] <;> first | exact ⟨rfl, rfl, rfl, rfl⟩ | rfl) ?_
                  refine DrO.run (fz := []) 3 (by simp -implicitDefEqProofs [u8s, H1, g24, g28, g95] <;> first | exact ⟨rfl, rfl, rfl, rfl⟩ | rfl) ?_
                  refine DrO.run (fz := []) 3 (by simp -implicitDefEqProofs [u8s, H1, g24, g28, g95] <;> first | exact ⟨rfl, rfl, rfl, rfl⟩ | rfl) ?_
                  refine DrO.run (fz := []) 3 (by simp -implicitDefEqProofs [u8s, H1, g24, g28, g95] <;> first | exact ⟨rfl, rfl, rfl, rfl⟩ | rfl) ?_
                  refine DrO.run (fz := []) 1 (by simp -implicitDefEqProofs [u8s, H1, g24, g28, g95] <;> first | exact ⟨rfl, rfl, rfl, rfl⟩ | rfl) ?_
                  refine DrO.data (by simp) rfl (by simp -implicitDefEqProofs [u8s, H1, g24, g28, g95] <;> rfl) (by simp -implicitDefEqProofs [u8s, H1, g24, g28, g95] <;> rfl) (by simp -implicitDefEqProofs [u8s, H1, g24, g28, g95] <;> rfl) call_8 (awake_ok) (by rfl) (by simp -implicitDefEqProofs [u8s, H1, g24, g28, g95] <;> rfl) ?_
                  refine DrO.run (fz := []) 2 (by simp -implicitDefEqProofs [u8s, H1, g24, g28, g95] <;> first | exact ⟨rfl, rfl, rfl, rfl⟩ | rfl) ?_
                  refine DrO.nil ⟨by kernel_rfl, ?_⟩
                  refine WpC.ret ?_
                  try simp only [blockQ, seqQ]
                  refine retD_i (by simp -implicitDefEqProofs [u8s, H1, g24, g28, g95] <;> rfl) (by simp -implicitDefEqProofs [u8s, H1, g24, g28, g95] <;> rfl) ?_
                  simp -implicitDefEqProofs [u8s, H1, g24, g28, g95]
              · try (exfalso; revert g95; simp; done)
                all_goals
                  have g95' := g95; first | simp only [dT, dF] at g95' | try simp at g95'
                  refine DrO.run (fz := []) 3 (by simp -implicitDefEqProofs [u8s, H1, g24, g28, g95] <;> first | exact ⟨rfl, rfl, rfl, rfl⟩ | rfl) ?_
                  refine DrO.splitB 98 (by simp -implicitDefEqProofs [u8s, H1, g24, g28, g95] <;> rfl) (by rfl) (fun g98 => ?_) (fun g98 => ?_)
                  · try (exfalso; revert g98; simp; done)
                    all_goals
                      have g98' := g98; first | simp only [dT, dF] at g98' | try simp at g98'
                      refine DrO.run (fz := []) 3 (by simp -implicitDefEqProofs [u8s, H1, g24, g28, g95, g98] <;> first | exact ⟨rfl, rfl, rfl, rfl⟩ | rfl) ?_
                      refine DrO.run (fz := []) 1 (by simp -implicitDefEqProofs [u8s, H1, g24, g28, g95, g98] <;> first | exact ⟨rfl, rfl, rfl, rfl⟩ | rfl) ?_
                      refine DrO.splitB 102 (by simp -implicitDefEqProofs [u8s, H1, g24, g28, g95, g98] <;> rfl) (by rfl) (fun g102 => ?_) (fun g102 => ?_)
                      · try (exfalso; revert g102; simp; done)
                        all_goals
                          have g102' := g102; first | simp only [dT, dF] at g102' | try simp at g102'
                          refine DrO.run (fz := []) 1 (by simp -implicitDefEqProofs [u8s, H1, g24, g28, g95, g98, g102] <;> first | exact ⟨rfl, rfl, rfl, rfl⟩ | rfl) ?_
                          contradiction
                          refine DrO.run (fz := []) 1 (by simp -implicitDefEqProofs [u8s, H1, g24, g28, g95, g98, g102] <;> first | exact ⟨rfl, rfl, rfl, rfl⟩ | rfl) ?_
                          contradiction
                          contradiction
                          refine DrO.run (fz := []) 3 (by simp -implicitDefEqProofs [u8s, H1, g24, g28, g95, g98, g102] <;> first | exact ⟨rfl, rfl, rfl, rfl⟩ | rfl) ?_
                          refine DrO.run (fz := []) 1 (by simp -implicitDefEqProofs [u8s, H1, g24, g28, g95, g98, g102] <;> first | exact ⟨rfl, rfl, rfl, rfl⟩ | rfl) ?_
                          refine DrO.splitB 111 (by simp -implicitDefEqProofs [u8s, H1, g24, g28, g95, g98, g102] <;> rfl) (by rfl) (fun g111 => ?_) (fun g111 => ?_)
                          · try (exfalso; revert g111; simp; done)
                            all_goals
                              have g111' := g111; first | simp only [dT, dF] at g111' | try simp at g111'
                              refine DrO.data (by simp) rfl (by simp -implicitDefEqProofs [u8s, H1, g24, g28, g95, g98, g102, g111] <;> rfl) (by simp -implicitDefEqProofs [u8s, H1, g24, g28, g95, g98, g102, g111] <;> rfl) (by simp -implicitDefEqProofs [u8s, H1, g24, g28, g95, g98, g102, g111] <;> rfl) call_8 (awake_ok) (by rfl) (by simp -implicitDefEqProofs [u8s, H1, g24, g28, g95, g98, g102, g111] <;> rfl) ?_
                              refine DrO.run (fz := []) 2 (by simp -implicitDefEqProofs [u8s, H1, g24, g28, g95, g98, g102, g111] <;> first | exact ⟨rfl, rfl, rfl, rfl⟩ | rfl) ?_
                              refine DrO.nil ⟨by kernel_rfl, ?_⟩
                              refine WpC.ret ?_
                              try simp only [blockQ, seqQ]
                              refine retD_i (by simp -implicitDefEqProofs [u8s, H1, g24, g28, g95, g98, g102, g111] <;> rfl) (by simp -implicitDefEqProofs [u8s, H1, g24, g28, g95, g98, g102, g111] <;> rfl) ?_
                              simp -implicitDefEqProofs [u8s, H1, g24, g28, g95, g98, g102, g111]
                          · try (exfalso; revert g111; simp; done)
                            all_goals
                              have g111' := g111; first | simp only [dT, dF] at g111' | try simp at g111'
                              refine DrO.run (fz := []) 3 (by simp -implicitDefEqProofs [u8s, H1, g24, g28, g95, g98, g102, g111] <;> first | exact ⟨rfl, rfl, rfl, rfl⟩ | rfl) ?_
                              refine DrO.nil ⟨by kernel_rfl, ?_⟩
                              refine WpC.ret ?_
                              try simp only [blockQ, seqQ]
                              refine retD_i (by simp -implicitDefEqProofs [u8s, H1, g24, g28, g95, g98, g102, g111] <;> rfl) (by simp -implicitDefEqProofs [u8s, H1, g24, g28, g95, g98, g102, g111] <;> rfl) ?_
                              simp -implicitDefEqProofs [u8s, H1, g24, g28, g95, g98, g102, g111]
                      · try (exfalso; revert g102; simp; done)
                        all_goals
                          have g102' := g102; first | simp only [dT, dF] at g102' | try simp at g102'
                          refine DrO.run (fz := []) 3 (by simp -implicitDefEqProofs [u8s, H1, g24, g28, g95, g98, g102] <;> first | exact ⟨rfl, rfl, rfl, rfl⟩ | rfl) ?_
                          refine DrO.run (fz := []) 3 (by simp -implicitDefEqProofs [u8s, H1, g24, g28, g95, g98, g102] <;> first | exact ⟨rfl, rfl, rfl, rfl⟩ | rfl) ?_
                          refine DrO.run (fz := []) 3 (by simp -implicitDefEqProofs [u8s, H1, g24, g28, g95, g98, g102] <;> first | exact ⟨rfl, rfl, rfl, rfl⟩ | rfl) ?_
                          refine DrO.run (fz := []) 3 (by simp -implicitDefEqProofs [u8s, H1, g24, g28, g95, g98, g102] <;> first | exact ⟨rfl, rfl, rfl, rfl⟩ | rfl) ?_
                          refine DrO.nil ⟨by kernel_rfl, ?_⟩
                          refine WpC.ret ?_
                          try simp only [blockQ, seqQ]
                          refine retD_i (by simp -implicitDefEqProofs [u8s, H1, g24, g28, g95, g98, g102] <;> rfl) (by simp -implicitDefEqProofs [u8s, H1, g24, g28, g95, g98, g102] <;> rfl) ?_
                          simp -implicitDefEqProofs [u8s, H1, g24, g28, g95, g98, g102]
                  · try (exfalso; revert g98; simp; done)
                    all_goals
                      have g98' := g98; first | simp only [dT, dF] at g98' | try simp at g98'
                      refine DrO.run (fz := []) 3 (by simp -implicitDefEqProofs [u8s, H1, g24, g28, g95, g98] <;> first | exact ⟨rfl, rfl, rfl, rfl⟩ | rfl) ?_
                      refine DrO.run (fz := []) 3 (by simp -implicitDefEqProofs [u8s, H1, g24, g28, g95, g98] <;> first | exact ⟨rfl, rfl, rfl, rfl⟩ | rfl) ?_
                      refine DrO.run (fz := []) 3 (by simp -implicitDefEqProofs [u8s, H1, g24, g28, g95, g98] <;> first | exact ⟨rfl, rfl, rfl, rfl⟩ | rfl) ?_
                      refine DrO.run (fz := []) 3 (by simp -implicitDefEqProofs [u8s, H1, g24, g28, g95, g98] <;> first | exact ⟨rfl, rfl, rfl, rfl⟩ | rfl) ?_
                      refine DrO.run (fz := []) 3 (by simp -implicitDefEqProofs [u8s, H1, g24, g28, g95, g98] <;> first | exact ⟨rfl, rfl, rfl, rfl⟩ | rfl) ?_
                      refine DrO.run (fz := []) 1 (by simp -implicitDefEqProofs [u8s, H1, g24, g28, g95, g98] <;> first | exact ⟨rfl, rfl, rfl, rfl⟩ | rfl) ?_
                      refine DrO.nil ⟨by kernel_rfl, ?_⟩
                      refine WpC.ret ?_
                      try simp only [blockQ, seqQ]
                      refine retD_i (by simp -implicitDefEqProofs [u8s, H1, g24, g28, g95, g98] <;> rfl) (by simp -implicitDefEqProofs [u8s, H1, g24, g28, g95, g98] <;> rfl) ?_
                      simp -implicitDefEqProofs [u8s, H1, g24, g28, g95, g98]
          · try (exfalso; revert g28; simp; done)
            all_goals
              have g28' := g28; first | simp only [dT, dF] at g28' | try simp at g28'
              refine WpO.run tabOk 3 (by simp -implicitDefEqProofs [u8s, H1, g24, g28] <;> first | exact ⟨rfl, rfl⟩ | rfl) ?_
              refine WpO.nil ?_
              refine WpC.condF (by simp -implicitDefEqProofs [u8s, H1, g24, g28] <;> rfl) ?_
              refine WpC.skip ?_
              refine qR (by simp -implicitDefEqProofs [u8s, H1, g24, g28] <;> rfl) ?_
              refine WpC.seq (WpC.drawn tabOk (by kernel_rfl) 1 (by simp) ?_)
              refine DrO.run (fz := []) 3 (by simp -implicitDefEqProofs [u8s, H1, g24, g28] <;> first | exact ⟨rfl, rfl, rfl, rfl⟩ | rfl) ?_
              refine DrO.run (fz := []) 3 (by simp -implicitDefEqProofs [u8s, H1, g24, g28] <;> first | exact ⟨rfl, rfl, rfl, rfl⟩ | rfl) ?_
              refine DrO.run (fz := []) 3 (by simp -implicitDefEqProofs [u8s, H1, g24, g28] <;> first | exact ⟨rfl, rfl, rfl, rfl⟩ | rfl) ?_
              refine DrO.run (fz := []) 3 (by simp -implicitDefEqProofs [u8s, H1, g24, g28] <;> first | exact ⟨rfl, rfl, rfl, rfl⟩ | rfl) ?_
              refine DrO.run (fz := []) 3 (by simp -implicitDefEqProofs [u8s, H1, g24, g28] <;> first | exact ⟨rfl, rfl, rfl, rfl⟩ | rfl) ?_
              refine DrO.run (fz := []) 2 (by simp -implicitDefEqProofs [u8s, H1, g24, g28] <;> first | exact ⟨rfl, rfl, rfl, rfl⟩ | rfl) ?_
              refine DrO.nil ⟨by kernel_rfl, ?_⟩
              refine WpC.seq ?_
              refine qR (by simp -implicitDefEqProofs [u8s, H1, g24, g28] <;> rfl) ?_
              refine WpC.condT (by simp -implicitDefEqProofs [u8s, H1, g24, g28] <;> rfl) ?_
              refine WpC.drawn tabOk (by kernel_rfl) 0 (by simp) ?_
              refine DrO.run (fz := []) 3 (by simp -implicitDefEqProofs [u8s, H1, g24, g28] <;> first | exact ⟨rfl, rfl, rfl, rfl⟩ | rfl) ?_
              refine DrO.run (fz := []) 3 (by simp -implicitDefEqProofs [u8s, H1, g24, g28] <;> first | exact ⟨rfl, rfl, rfl, rfl⟩ | rfl) ?_
              refine DrO.run (fz := []) 3 (by simp -implicitDefEqProofs [u8s, H1, g24, g28] <;> first | exact ⟨rfl, rfl, rfl, rfl⟩ | rfl) ?_
              refine DrO.nil ⟨by kernel_rfl, ?_⟩
              refine WpC.seq ?_
              refine WpC.region ?_
              refine WpO.run tabOk 1 (by simp -implicitDefEqProofs [u8s, H1, g24, g28] <;> first | exact ⟨rfl, rfl⟩ | rfl) ?_
              refine WpO.data (by simp) rfl (by simp -implicitDefEqProofs [u8s, H1, g24, g28] <;> rfl) (by simp -implicitDefEqProofs [u8s, H1, g24, g28] <;> rfl) (by simp -implicitDefEqProofs [u8s, H1, g24, g28] <;> rfl) call_13 (by simp) (hrd) (by rfl) (by simp -implicitDefEqProofs [u8s, H1, g24, g28] <;> rfl) ?_
              refine WpO.run tabOk 6 (by simp -implicitDefEqProofs [u8s, H1, g24, g28] <;> first | exact ⟨rfl, rfl⟩ | rfl) ?_
              refine WpO.nil ?_
              refine WpC.seq ?_
              refine qR (by simp -implicitDefEqProofs [u8s, H1, g24, g28] <;> rfl) ?_
              refine WpC.condF (by simp -implicitDefEqProofs [u8s, H1, g24, g28] <;> rfl) ?_
              refine WpC.skip ?_
              refine WpC.seq ?_
              refine WpC.drawn tabOk (by kernel_rfl) 0 (by simp) ?_
              refine DrO.run (fz := []) 3 (by simp -implicitDefEqProofs [u8s, H1, g24, g28] <;> first | exact ⟨rfl, rfl, rfl, rfl⟩ | rfl) ?_
              refine DrO.splitB 95 (by simp -implicitDefEqProofs [u8s, H1, g24, g28] <;> rfl) (by rfl) (fun g95 => ?_) (fun g95 => ?_)
              · try (exfalso; revert g95; simp; done)
                all_goals
                  have g95' := g95; first | simp only [dT, dF] at g95' | try simp at g95'
                  refine DrO.run (fz := []) 3 (by simp -implicitDefEqProofs [u8s, H1, g24, g28, g95] <;> first | exact ⟨rfl, rfl, rfl, rfl⟩ | rfl) ?_
                  refine DrO.run (fz := []) 3 (by simp -implicitDefEqProofs [u8s, H1, g24, g28, g95] <;> first | exact ⟨rfl, rfl, rfl, rfl⟩ | rfl) ?_
                  refine DrO.run (fz := []) 3 (by simp -implicitDefEqProofs [u8s, H1, g24, g28, g95] <;> first | exact ⟨rfl, rfl, rfl, rfl⟩ | rfl) ?_
                  refine DrO.run (fz := []) 3 (by simp -implicitDefEqProofs [u8s, H1, g24, g28, g95] <;> first | exact ⟨rfl, rfl, rfl, rfl⟩ | rfl) ?_
                  refine DrO.run (fz := []) 3 (by simp -implicitDefEqProofs [u8s, H1, g24, g28, g95] <;> first | exact ⟨rfl, rfl, rfl, rfl⟩ | rfl) ?_
                  refine DrO.run (fz := []) 1 (by simp -implicitDefEqProofs [u8s, H1, g24, g28, g95] <;> first | exact ⟨rfl, rfl, rfl, rfl⟩ | rfl) ?_
                  refine DrO.data (by simp) rfl (by simp -implicitDefEqProofs [u8s, H1, g24, g28, g95] <;> rfl) (by simp -implicitDefEqProofs [u8s, H1, g24, g28, g95] <;> rfl) (by simp -implicitDefEqProofs [u8s, H1, g24, g28, g95] <;> rfl) call_8 (awake_ok) (by rfl) (by simp -implicitDefEqProofs [u8s, H1, g24, g28, g95] <;> rfl) ?_
                  refine DrO.run (fz := []) 2 (by simp -implicitDefEqProofs [u8s, H1, g24, g28, g95] <;> first | exact ⟨rfl, rfl, rfl, rfl⟩ | rfl) ?_
                  refine DrO.nil ⟨by kernel_rfl, ?_⟩
                  refine WpC.ret ?_
                  try simp only [blockQ, seqQ]
                  refine retD_i (by simp -implicitDefEqProofs [u8s, H1, g24, g28, g95] <;> rfl) (by simp -implicitDefEqProofs [u8s, H1, g24, g28, g95] <;> rfl) ?_
                  simp -implicitDefEqProofs [u8s, H1, g24, g28, g95]
              · try (exfalso; revert g95; simp; done)
                all_goals
                  have g95' := g95; first | simp only [dT, dF] at g95' | try simp at g95'
                  refine DrO.run (fz := []) 3 (by simp -implicitDefEqProofs [u8s, H1, g24, g28, g95] <;> first | exact ⟨rfl, rfl, rfl, rfl⟩ | rfl) ?_
                  refine DrO.splitB 98 (by simp -implicitDefEqProofs [u8s, H1, g24, g28, g95] <;> rfl) (by rfl) (fun g98 => ?_) (fun g98 => ?_)
                  · try (exfalso; revert g98; simp; done)
                    all_goals
                      have g98' := g98; first | simp only [dT, dF] at g98' | try simp at g98'
                      refine DrO.run (fz := []) 3 (by simp -implicitDefEqProofs [u8s, H1, g24, g28, g95, g98] <;> first | exact ⟨rfl, rfl, rfl, rfl⟩ | rfl) ?_
                      refine DrO.run (fz := []) 1 (by simp -implicitDefEqProofs [u8s, H1, g24, g28, g95, g98] <;> first | exact ⟨rfl, rfl, rfl, rfl⟩ | rfl) ?_
                      refine DrO.splitB 102 (by simp -implicitDefEqProofs [u8s, H1, g24, g28, g95, g98] <;> rfl) (by rfl) (fun g102 => ?_) (fun g102 => ?_)
                      · try (exfalso; revert g102; simp; done)
                        all_goals
                          have g102' := g102; first | simp only [dT, dF] at g102' | try simp at g102'
                          refine DrO.run (fz := []) 1 (by simp -implicitDefEqProofs [u8s, H1, g24, g28, g95, g98, g102] <;> first | exact ⟨rfl, rfl, rfl, rfl⟩ | rfl) ?_
                          contradiction
                          refine DrO.run (fz := []) 1 (by simp -implicitDefEqProofs [u8s, H1, g24, g28, g95, g98, g102] <;> first | exact ⟨rfl, rfl, rfl, rfl⟩ | rfl) ?_
                          contradiction
                          contradiction
                          refine DrO.run (fz := []) 3 (by simp -implicitDefEqProofs [u8s, H1, g24, g28, g95, g98, g102] <;> first | exact ⟨rfl, rfl, rfl, rfl⟩ | rfl) ?_
                          refine DrO.run (fz := []) 1 (by simp -implicitDefEqProofs [u8s, H1, g24, g28, g95, g98, g102] <;> first | exact ⟨rfl, rfl, rfl, rfl⟩ | rfl) ?_
                          refine DrO.splitB 111 (by simp -implicitDefEqProofs [u8s, H1, g24, g28, g95, g98, g102] <;> rfl) (by rfl) (fun g111 => ?_) (fun g111 => ?_)
                          · try (exfalso; revert g111; simp; done)
                            all_goals
                              have g111' := g111; first | simp only [dT, dF] at g111' | try simp at g111'
                              refine DrO.data (by simp) rfl (by simp -implicitDefEqProofs [u8s, H1, g24, g28, g95, g98, g102, g111] <;> rfl) (by simp -implicitDefEqProofs [u8s, H1, g24, g28, g95, g98, g102, g111] <;> rfl) (by simp -implicitDefEqProofs [u8s, H1, g24, g28, g95, g98, g102, g111] <;> rfl) call_8 (awake_ok) (by rfl) (by simp -implicitDefEqProofs [u8s, H1, g24, g28, g95, g98, g102, g111] <;> rfl) ?_
                              refine DrO.run (fz := []) 2 (by simp -implicitDefEqProofs [u8s, H1, g24, g28, g95, g98, g102, g111] <;> first | exact ⟨rfl, rfl, rfl, rfl⟩ | rfl) ?_
                              refine DrO.nil ⟨by kernel_rfl, ?_⟩
                              refine WpC.ret ?_
                              try simp only [blockQ, seqQ]
                              refine retD_i (by simp -implicitDefEqProofs [u8s, H1, g24, g28, g95, g98, g102, g111] <;> rfl) (by simp -implicitDefEqProofs [u8s, H1, g24, g28, g95, g98, g102, g111] <;> rfl) ?_
                              simp -implicitDefEqProofs [u8s, H1, g24, g28, g95, g98, g102, g111]
                          · try (exfalso; revert g111; simp; done)
                            all_goals
                              have g111' := g111; first | simp only [dT, dF] at g111' | try simp at g111'
                              refine DrO.run (fz := []) 3 (by simp -implicitDefEqProofs [u8s, H1, g24, g28, g95, g98, g102, g111] <;> first | exact ⟨rfl, rfl, rfl, rfl⟩ | rfl) ?_
                              refine DrO.nil ⟨by kernel_rfl, ?_⟩
                              refine WpC.ret ?_
                              try simp only [blockQ, seqQ]
                              refine retD_i (by simp -implicitDefEqProofs [u8s, H1, g24, g28, g95, g98, g102, g111] <;> rfl) (by simp -implicitDefEqProofs [u8s, H1, g24, g28, g95, g98, g102, g111] <;> rfl) ?_
                              simp -implicitDefEqProofs [u8s, H1, g24, g28, g95, g98, g102, g111]
                      · try (exfalso; revert g102; simp; done)
                        all_goals
                          have g102' := g102; first | simp only [dT, dF] at g102' | try simp at g102'
                          refine DrO.run (fz := []) 3 (by simp -implicitDefEqProofs [u8s, H1, g24, g28, g95, g98, g102] <;> first | exact ⟨rfl, rfl, rfl, rfl⟩ | rfl) ?_
                          refine DrO.run (fz := []) 3 (by simp -implicitDefEqProofs [u8s, H1, g24, g28, g95, g98, g102] <;> first | exact ⟨rfl, rfl, rfl, rfl⟩ | rfl) ?_
                          refine DrO.run (fz := []) 3 (by simp -implicitDefEqProofs [u8s, H1, g24, g28, g95, g98, g102] <;> first | exact ⟨rfl, rfl, rfl, rfl⟩ | rfl) ?_
                          refine DrO.run (fz := []) 3 (by simp -implicitDefEqProofs [u8s, H1, g24, g28, g95, g98, g102] <;> first | exact ⟨rfl, rfl, rfl, rfl⟩ | rfl) ?_
                          refine DrO.nil ⟨by kernel_rfl, ?_⟩
                          refine WpC.ret ?_
                          try simp only [blockQ, seqQ]
                          refine retD_i (by simp -implicitDefEqProofs [u8s, H1, g24, g28, g95, g98, g102] <;> rfl) (by simp -implicitDefEqProofs [u8s, H1, g24, g28, g95, g98, g102] <;> rfl) ?_
                          simp -implicitDefEqProofs [u8s, H1, g24, g28, g95, g98, g102]
                  · try (exfalso; revert g98; simp; done)
                    all_goals
                      have g98' := g98; first | simp only [dT, dF] at g98' | try simp at g98'
                      refine DrO.run (fz := []) 3 (by simp -implicitDefEqProofs [u8s, H1, g24, g28, g95, g98] <;> first | exact ⟨rfl, rfl, rfl, rfl⟩ | rfl) ?_
                      refine DrO.run (fz := []) 3 (by simp -implicitDefEqProofs [u8s, H1, g24, g28, g95, g98] <;> first | exact ⟨rfl, rfl, rfl, rfl⟩ | rfl) ?_
                      refine DrO.run (fz := []) 3 (by simp -implicitDefEqProofs [u8s, H1, g24, g28, g95, g98] <;> first | exact ⟨rfl, rfl, rfl, rfl⟩ | rfl) ?_
                      refine DrO.run (fz := []) 3 (by simp -implicitDefEqProofs [u8s, H1, g24, g28, g95, g98] <;> first | exact ⟨rfl, rfl, rfl, rfl⟩ | rfl) ?_
                      refine DrO.run (fz := []) 3 (by simp -implicitDefEqProofs [u8s, H1, g24, g28, g95, g98] <;> first | exact ⟨rfl, rfl, rfl, rfl⟩ | rfl) ?_
                      refine DrO.run (fz := []) 1 (by simp -implicitDefEqProofs [u8s, H1, g24, g28, g95, g98] <;> first | exact ⟨rfl, rfl, rfl, rfl⟩ | rfl) ?_
                      refine DrO.nil ⟨by kernel_rfl, ?_⟩
                      refine WpC.ret ?_
                      try simp only [blockQ, seqQ]
                      refine retD_i (by simp -implicitDefEqProofs [u8s, H1, g24, g28, g95, g98] <;> rfl) (by simp -implicitDefEqProofs [u8s, H1, g24, g28, g95, g98] <;> rfl) ?_
                      simp -implicitDefEqProofs [u8s, H1, g24, g28, g95, g98]
    | some f =>
      obtain ⟨per2, l2⟩ := f
      obtain ⟨hr2, ht2⟩ := read_some hrr
      have h3 := textL_len hr2
      rw [ht2, htl] at h3
      exact absurd h3 (by omega)
theorem bankTurned_walk (per : Int) (l : List Pm) (at_ by_ : Int) (off : Bool) (ha0 : 0 ≤ at_) (ha1 : at_ ≤ 65535) (hb0 : 0 ≤ by_) (hb1 : by_ ≤ 255) (hl : l.length ≤ 9223372036854775807) : Gives Tryd.prog 5 [.d (encF per l), .d (.int .u16 at_), .d (.int .u8 by_), .d (.bool off)] (.d (.bool true)) := by
  by_cases h : l.length ≤ 100 ∧ rightB per l = true
  · exact turned_yes per l at_ by_ off ha0 ha1 hb0 hb1 h.1 h.2
  · exact turned_no per l at_ by_ off hl h
end Go.Proofs.YtjlamhilnkadcaaDoor.Pay
