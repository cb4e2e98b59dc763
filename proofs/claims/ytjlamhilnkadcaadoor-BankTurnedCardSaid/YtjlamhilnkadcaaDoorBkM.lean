/- The bank's laws: their fixed answer. No statement of the seed is proved here. -/
import Derived.Test.YtjlamhilnkadcaaDoorBkL
namespace Go.Proofs.YtjlamhilnkadcaaDoor.Pay
open Go Go.RowKit
set_option linter.unusedVariables false
set_option linter.unusedSimpArgs false

def awT : List UInt8 := [72, 50, 52, 50, 55, 54, 10, 69, 48, 48, 48, 48, 48, 48, 48, 48, 48, 49, 48, 48, 48, 48, 48, 48, 48, 48, 48, 48, 48, 48, 57, 48, 48, 48, 10, 84, 48, 48, 48, 49, 48, 48, 48, 48, 48, 48, 48, 48, 48, 48, 48, 48, 48, 48, 48, 48, 57, 48, 48, 48, 10]
theorem aw_right : rightB 24276 [⟨69, 1, 9000⟩] = true := by decide
theorem aw_text : textL 24276 [⟨69, 1, 9000⟩] = awT := by
  simp [textL, bodyL, headL, lineL, sumA, wideL, Lib.itoa, Lib.decDigits, awT, List.replicate]
theorem aw_short : readR [72, 50, 52, 50, 55, 54, 10] = none := by
  have h := splL_rows [[72, 50, 52, 50, 55, 54]] (by decide)
  have e : ([[72, 50, 52, 50, 55, 54]].map (· ++ [10])).flatten = ([72, 50, 52, 50, 55, 54, 10] : List UInt8) := rfl
  rw [e] at h
  rw [readR, h]
  rfl
theorem awake_ok : Gives Tryd.prog 8 [] (.d (.bool true)) := by
  have hw := writeA_ok 24276 [⟨69, 1, 9000⟩] (by decide)
  have hs : wrS 24276 [⟨69, 1, 9000⟩] = awT := by rw [wrS, if_pos aw_right, aw_text]
  have he : wrE 24276 [⟨69, 1, 9000⟩] = 0 := by rw [wrE, if_pos aw_right]
  rw [hs, he] at hw
  have hr := readA_ok awT (by decide)
  rw [← aw_text, read_text aw_right, aw_text] at hr
  have hr2 := readA_ok [72, 50, 52, 50, 55, 54, 10] (by decide)
  rw [aw_short] at hr2
  have hc := right_ok 24276 [⟨69, 1, 9000⟩] (by decide)
  rw [aw_right] at hc
  simp only [encR] at hr hr2
  obtain ⟨T, hT⟩ : ∃ T, awT = T := ⟨_, rfl⟩
  have hT2 : ([72, 50, 52, 50, 55, 54, 10, 69, 48, 48, 48, 48, 48, 48, 48, 48, 48, 49, 48, 48, 48, 48, 48, 48, 48, 48, 48, 48, 48, 48, 57, 48, 48, 48, 10, 84, 48, 48, 48, 49, 48, 48, 48, 48, 48, 48, 48, 48, 48, 48, 48, 48, 48, 48, 48, 48, 57, 48, 48, 48, 10] : List UInt8) = T := hT
  rw [hT] at hw hr
  refine Gives.enter tabOk Tryd.func8 rfl (by show 0 ≤ 47; decide) ?_
  simp only [Tryd.f8]
  refine qR (by simp -implicitDefEqProofs [hT2] <;> rfl) ?_
  refine WpC.seq ?_
  refine WpC.region ?_
  refine WpO.run tabOk 3 (by simp -implicitDefEqProofs [hT2] <;> first | exact ⟨rfl, rfl⟩ | rfl) ?_
  refine WpO.lend (by simp) rfl (by simp -implicitDefEqProofs [hT2] <;> rfl) (by simp -implicitDefEqProofs [hT2] <;> rfl) (by simp -implicitDefEqProofs [hT2] <;> rfl) call_9 (WpF.mono hw fun _ _ h => h) (by rfl) (by simp -implicitDefEqProofs [hT2] <;> rfl) ?_
  refine WpO.run tabOk 5 (by simp -implicitDefEqProofs [hT2] <;> first | exact ⟨rfl, rfl⟩ | rfl) ?_
  refine WpO.nil ?_
  refine WpC.seq ?_
  refine WpC.region ?_
  refine WpO.run tabOk 1 (by simp -implicitDefEqProofs [hT2] <;> first | exact ⟨rfl, rfl⟩ | rfl) ?_
  refine WpO.data (by simp) rfl (by simp -implicitDefEqProofs [hT2] <;> rfl) (by simp -implicitDefEqProofs [hT2] <;> rfl) (by simp -implicitDefEqProofs [hT2] <;> rfl) call_13 (by simp) (hr) (by rfl) (by simp -implicitDefEqProofs [hT2] <;> rfl) ?_
  refine WpO.run tabOk 6 (by simp -implicitDefEqProofs [hT2] <;> first | exact ⟨rfl, rfl⟩ | rfl) ?_
  refine WpO.nil ?_
  refine WpC.seq ?_
  refine WpC.region ?_
  refine WpO.data (by simp) rfl (by simp -implicitDefEqProofs [hT2] <;> rfl) (by simp -implicitDefEqProofs [hT2] <;> rfl) (by simp -implicitDefEqProofs [hT2] <;> rfl) call_13 (by simp) (hr2) (by rfl) (by simp -implicitDefEqProofs [hT2] <;> rfl) ?_
  refine WpO.run tabOk 6 (by simp -implicitDefEqProofs [hT2] <;> first | exact ⟨rfl, rfl⟩ | rfl) ?_
  refine WpO.nil ?_
  refine WpC.seq ?_
  refine WpC.region ?_
  refine WpO.run tabOk 3 (by simp -implicitDefEqProofs [hT2] <;> first | exact ⟨rfl, rfl⟩ | rfl) ?_
  refine WpO.splitB 25 (by simp -implicitDefEqProofs [hT2] <;> rfl) (by rfl) (fun g25 => ?_) (fun g25 => ?_)
  · try (exfalso; revert g25; simp; done)
    all_goals
      have g25' := g25; first | simp only [dT, dF] at g25' | try simp at g25'
      refine WpO.run tabOk 4 (by simp -implicitDefEqProofs [hT2, g25] <;> first | exact ⟨rfl, rfl⟩ | rfl) ?_
      refine WpO.splitB 29 (by simp -implicitDefEqProofs [hT2, g25] <;> rfl) (by rfl) (fun g29 => ?_) (fun g29 => ?_)
      · try (exfalso; revert g29; simp; done)
        all_goals
          have g29' := g29; first | simp only [dT, dF] at g29' | try simp at g29'
          refine WpO.run tabOk 6 (by simp -implicitDefEqProofs [hT2, g25, g29] <;> first | exact ⟨rfl, rfl⟩ | rfl) ?_
          refine WpO.splitB 35 (by simp -implicitDefEqProofs [hT2, g25, g29] <;> rfl) (by rfl) (fun g35 => ?_) (fun g35 => ?_)
          · try (exfalso; revert g35; simp; done)
            all_goals
              have g35' := g35; first | simp only [dT, dF] at g35' | try simp at g35'
              refine WpO.run tabOk 4 (by simp -implicitDefEqProofs [hT2, g25, g29, g35] <;> first | exact ⟨rfl, rfl⟩ | rfl) ?_
              refine WpO.splitB 39 (by simp -implicitDefEqProofs [hT2, g25, g29, g35] <;> rfl) (by rfl) (fun g39 => ?_) (fun g39 => ?_)
              · try (exfalso; revert g39; simp; done)
                all_goals
                  have g39' := g39; first | simp only [dT, dF] at g39' | try simp at g39'
                  refine WpO.run tabOk 4 (by simp -implicitDefEqProofs [hT2, g25, g29, g35, g39] <;> first | exact ⟨rfl, rfl⟩ | rfl) ?_
                  refine WpO.splitB 43 (by simp -implicitDefEqProofs [hT2, g25, g29, g35, g39] <;> rfl) (by rfl) (fun g43 => ?_) (fun g43 => ?_)
                  · try (exfalso; revert g43; simp; done)
                    all_goals
                      have g43' := g43; first | simp only [dT, dF] at g43' | try simp at g43'
                      refine WpO.run tabOk 1 (by simp -implicitDefEqProofs [hT2, g25, g29, g35, g39, g43] <;> first | exact ⟨rfl, rfl⟩ | rfl) ?_
                      refine WpO.data (by simp) rfl (by simp -implicitDefEqProofs [hT2, g25, g29, g35, g39, g43] <;> rfl) (by simp -implicitDefEqProofs [hT2, g25, g29, g35, g39, g43] <;> rfl) (by simp -implicitDefEqProofs [hT2, g25, g29, g35, g39, g43] <;> rfl) call_12 (by simp) (hc) (by rfl) (by simp -implicitDefEqProofs [hT2, g25, g29, g35, g39, g43] <;> rfl) ?_
                      refine WpO.run tabOk 2 (by simp -implicitDefEqProofs [hT2, g25, g29, g35, g39, g43] <;> first | exact ⟨rfl, rfl⟩ | rfl) ?_
                      refine WpO.nil ?_
                      refine WpC.ret ?_
                      try simp only [blockQ, seqQ]
                      refine retD_i (by simp -implicitDefEqProofs [hT2, g25, g29, g35, g39, g43] <;> rfl) (by simp -implicitDefEqProofs [hT2, g25, g29, g35, g39, g43] <;> rfl) ?_
                      simp -implicitDefEqProofs [hT2, g25, g29, g35, g39, g43]
                  · try (exfalso; revert g43; simp; done)
                    all_goals
                      have g43' := g43; first | simp only [dT, dF] at g43' | try simp at g43'
                      refine WpO.run tabOk 4 (by simp -implicitDefEqProofs [hT2, g25, g29, g35, g39, g43] <;> first | exact ⟨rfl, rfl⟩ | rfl) ?_
                      refine WpO.nil ?_
                      refine WpC.ret ?_
                      try simp only [blockQ, seqQ]
                      refine retD_i (by simp -implicitDefEqProofs [hT2, g25, g29, g35, g39, g43] <;> rfl) (by simp -implicitDefEqProofs [hT2, g25, g29, g35, g39, g43] <;> rfl) ?_
                      simp -implicitDefEqProofs [hT2, g25, g29, g35, g39, g43]
              · try (exfalso; revert g39; simp; done)
                all_goals
                  have g39' := g39; first | simp only [dT, dF] at g39' | try simp at g39'
                  refine WpO.run tabOk 8 (by simp -implicitDefEqProofs [hT2, g25, g29, g35, g39] <;> first | exact ⟨rfl, rfl⟩ | rfl) ?_
                  refine WpO.nil ?_
                  refine WpC.ret ?_
                  try simp only [blockQ, seqQ]
                  refine retD_i (by simp -implicitDefEqProofs [hT2, g25, g29, g35, g39] <;> rfl) (by simp -implicitDefEqProofs [hT2, g25, g29, g35, g39] <;> rfl) ?_
                  simp -implicitDefEqProofs [hT2, g25, g29, g35, g39]
          · try (exfalso; revert g35; simp; done)
            all_goals
              have g35' := g35; first | simp only [dT, dF] at g35' | try simp at g35'
              refine WpO.run tabOk 12 (by simp -implicitDefEqProofs [hT2, g25, g29, g35] <;> first | exact ⟨rfl, rfl⟩ | rfl) ?_
              refine WpO.nil ?_
              refine WpC.ret ?_
              try simp only [blockQ, seqQ]
              refine retD_i (by simp -implicitDefEqProofs [hT2, g25, g29, g35] <;> rfl) (by simp -implicitDefEqProofs [hT2, g25, g29, g35] <;> rfl) ?_
              simp -implicitDefEqProofs [hT2, g25, g29, g35]
      · try (exfalso; revert g29; simp; done)
        all_goals
          have g29' := g29; first | simp only [dT, dF] at g29' | try simp at g29'
          refine WpO.run tabOk 18 (by simp -implicitDefEqProofs [hT2, g25, g29] <;> first | exact ⟨rfl, rfl⟩ | rfl) ?_
          refine WpO.nil ?_
          refine WpC.ret ?_
          try simp only [blockQ, seqQ]
          refine retD_i (by simp -implicitDefEqProofs [hT2, g25, g29] <;> rfl) (by simp -implicitDefEqProofs [hT2, g25, g29] <;> rfl) ?_
          simp -implicitDefEqProofs [hT2, g25, g29]
  · try (exfalso; revert g25; simp; done)
    all_goals
      have g25' := g25; first | simp only [dT, dF] at g25' | try simp at g25'
      refine WpO.run tabOk 22 (by simp -implicitDefEqProofs [hT2, g25] <;> first | exact ⟨rfl, rfl⟩ | rfl) ?_
      refine WpO.nil ?_
      refine WpC.ret ?_
      try simp only [blockQ, seqQ]
      refine retD_i (by simp -implicitDefEqProofs [hT2, g25] <;> rfl) (by simp -implicitDefEqProofs [hT2, g25] <;> rfl) ?_
      simp -implicitDefEqProofs [hT2, g25]
end Go.Proofs.YtjlamhilnkadcaaDoor.Pay
