/- The bank's laws: their fixed answer. No statement of the seed is proved here. -/
import Derived.Test.YtjlamhilnkadcaaGreatDoorBzL
namespace Go.Proofs.YtjlamhilnkadcaaGreatDoor.Pay
open Go Go.RowKit
set_option linter.unusedVariables false
set_option linter.unusedSimpArgs false

def awT : List UInt8 := [72, 50, 52, 50, 55, 54, 10, 69, 48, 48, 48, 48, 48, 48, 48, 48, 48, 49, 48, 48, 48, 48, 48, 48, 48, 48, 48, 48, 48, 48, 57, 48, 48, 48, 10, 84, 48, 48, 48, 49, 48, 48, 48, 48, 48, 48, 48, 48, 48, 48, 48, 48, 48, 48, 48, 48, 57, 48, 48, 48, 10]
theorem aw_right : rightFB 24276 [⟨69, 1, 9000⟩] = true := by decide
theorem aw_text : textL 24276 [⟨69, 1, 9000⟩] = awT := by
  simp [textL, bodyL, headL, lineL, sumA, wideL, Lib.itoa, Lib.decDigits, awT, List.replicate]
theorem aw_short : readR [72, 50, 52, 50, 55, 54, 10] = none := by
  have h := splL_rows [[72, 50, 52, 50, 55, 54]] (by decide)
  have e : ([[72, 50, 52, 50, 55, 54]].map (· ++ [10])).flatten = ([72, 50, 52, 50, 55, 54, 10] : List UInt8) := rfl
  rw [e] at h
  rw [readR, h]
  rfl
theorem awake_ok : Gives Tryz.prog 6 [] (.d (.bool true)) := by
  have hw := writeA_ok 24276 [⟨69, 1, 9000⟩] (by decide)
  have hs : wrS 24276 [⟨69, 1, 9000⟩] = awT := by rw [wrS, if_pos aw_right, aw_text]
  have he : wrE 24276 [⟨69, 1, 9000⟩] = 0 := by rw [wrE, if_pos aw_right]
  rw [hs, he] at hw
  have hr := readA_ok awT (by decide)
  rw [← aw_text, read_text aw_right, aw_text] at hr
  have hr2 := readA_ok [72, 50, 52, 50, 55, 54, 10] (by decide)
  rw [aw_short] at hr2
  have hc := rightF_ok 24276 [⟨69, 1, 9000⟩] (by decide)
  rw [aw_right] at hc
  simp only [encR] at hr hr2
  obtain ⟨T, hT⟩ : ∃ T, awT = T := ⟨_, rfl⟩
  have hT2 : ([72, 50, 52, 50, 55, 54, 10, 69, 48, 48, 48, 48, 48, 48, 48, 48, 48, 49, 48, 48, 48, 48, 48, 48, 48, 48, 48, 48, 48, 48, 57, 48, 48, 48, 10, 84, 48, 48, 48, 49, 48, 48, 48, 48, 48, 48, 48, 48, 48, 48, 48, 48, 48, 48, 48, 48, 57, 48, 48, 48, 10] : List UInt8) = T := hT
  rw [hT] at hw hr
  refine Gives.enter tabOk Tryz.func6 rfl (by show 0 ≤ 47; decide) ?_
  simp only [Tryz.f6]
  have H := hT2
  refine zR ?_
  refine WpC.seq ?_
  refine WpC.region ?_
  refine zO 3 ?_
  refine zB call_5 (WpF.mono hw fun _ _ h => h) ?_
  refine zO 5 ?_
  refine WpO.nil ?_
  refine WpC.seq ?_
  refine WpC.region ?_
  refine zO 1 ?_
  refine zG call_7 (hr) ?_
  refine zO 6 ?_
  refine WpO.nil ?_
  refine WpC.seq ?_
  refine WpC.region ?_
  refine zG call_7 (hr2) ?_
  refine zO 6 ?_
  refine WpO.nil ?_
  refine WpC.seq ?_
  refine WpC.region ?_
  refine zO 3 ?_
  refine zS 25 (fun g25 => ?_) (fun g25 => ?_)
  ·try (exfalso; revert g25; simp; done)
   all_goals
    have g25' := zN g25
    replace H := And.intro g25 H
    refine zO 4 ?_
    refine zS 29 (fun g29 => ?_) (fun g29 => ?_)
    ·try (exfalso; revert g29; simp; done)
     all_goals
      have g29' := zN g29
      replace H := And.intro g29 H
      refine zO 6 ?_
      refine zS 35 (fun g35 => ?_) (fun g35 => ?_)
      ·try (exfalso; revert g35; simp; done)
       all_goals
        have g35' := zN g35
        replace H := And.intro g35 H
        refine zO 4 ?_
        refine zS 39 (fun g39 => ?_) (fun g39 => ?_)
        ·try (exfalso; revert g39; simp; done)
         all_goals
          have g39' := zN g39
          replace H := And.intro g39 H
          refine zO 4 ?_
          refine zS 43 (fun g43 => ?_) (fun g43 => ?_)
          ·try (exfalso; revert g43; simp; done)
           all_goals
            have g43' := zN g43
            replace H := And.intro g43 H
            refine zO 1 ?_
            refine zG call_12 (hc) ?_
            refine zO 2 ?_
            refine WpO.nil ?_
            refine WpC.ret ?_
            try simp only [blockQ, seqQ]
            refine zE ?_
            simp -implicitDefEqProofs [H]
          ·try (exfalso; revert g43; simp; done)
           all_goals
            have g43' := zN g43
            replace H := And.intro g43 H
            refine zO 4 ?_
            refine WpO.nil ?_
            refine WpC.ret ?_
            try simp only [blockQ, seqQ]
            refine zE ?_
            simp -implicitDefEqProofs [H]
        ·try (exfalso; revert g39; simp; done)
         all_goals
          have g39' := zN g39
          replace H := And.intro g39 H
          refine zO 8 ?_
          refine WpO.nil ?_
          refine WpC.ret ?_
          try simp only [blockQ, seqQ]
          refine zE ?_
          simp -implicitDefEqProofs [H]
      ·try (exfalso; revert g35; simp; done)
       all_goals
        have g35' := zN g35
        replace H := And.intro g35 H
        refine zO 12 ?_
        refine WpO.nil ?_
        refine WpC.ret ?_
        try simp only [blockQ, seqQ]
        refine zE ?_
        simp -implicitDefEqProofs [H]
    ·try (exfalso; revert g29; simp; done)
     all_goals
      have g29' := zN g29
      replace H := And.intro g29 H
      refine zO 12 ?_
      refine zO 6 ?_
      refine WpO.nil ?_
      refine WpC.ret ?_
      try simp only [blockQ, seqQ]
      refine zE ?_
      simp -implicitDefEqProofs [H]
  ·try (exfalso; revert g25; simp; done)
   all_goals
    have g25' := zN g25
    replace H := And.intro g25 H
    refine zO 12 ?_
    refine zO 10 ?_
    refine WpO.nil ?_
    refine WpC.ret ?_
    try simp only [blockQ, seqQ]
    refine zE ?_
    simp -implicitDefEqProofs [H]
end Go.Proofs.YtjlamhilnkadcaaGreatDoor.Pay
