/- bank.Right walked. No statement of the seed is proved here. -/
import Derived.Test.YtjlamhilnkadcaaGreatDoorBkA
namespace Go.Proofs.YtjlamhilnkadcaaGreatDoor.Pay
open Go Go.RowKit
set_option linter.unusedVariables false
set_option linter.unusedSimpArgs false

set_option maxHeartbeats 4000000 in
theorem rightF_ok (per : Int) (l : List Pm) (hl : l.length ≤ 9223372036854775807) : Gives Tryz.prog 12 [.d (encF per l)] (.d (.bool (rightFB per l))) := by
  refine Gives.enter tabOk Tryz.func12 rfl (by show 1 ≤ 71; decide) ?_
  simp only [Tryz.f12]
  have H := trivial
  refine zR ?_
  refine WpC.seq ?_
  refine zR ?_
  refine WpC.block ?_
  refine WpC.loopK [1, 6, 7] [8] (l.length) (() : Unit) (fun k _ => [(8, .d (.int .i64 k))]) (fun k _ => [.cells 24 [.d (dI per), .d (encPm l)]]) (fun k _ => allB l k = true) (by simp -implicitDefEqProofs [H] <;> rfl) (Gh.cut' [8, 1, 6, 7] 1 (by simp -implicitDefEqProofs [H]) (by simp -implicitDefEqProofs [H]) rfl (by simp) (by simp) (by simp)) (by rfl) ?_
  rintro k ⟨⟩ hk hi
  simp only [List.cons_append, List.nil_append]
  refine zR ?_
  refine WpC.seq (zL (k < l.length) (fun hlt => ?_) (fun hge => ?_))
  ·refine WpC.skip ?_
   have hkl : k < l.length := by omega
   obtain ⟨p, hp⟩ : ∃ p, l[k] = p := ⟨_, rfl⟩
   have hpd : l.getD k default = p := by simp [List.getD, hkl, hp]
   have hw : IntKind.i64.wrap ((k : Int) + 1) = k + 1 := wrapI (by omega) (by omega)
   have hw1 : k ≠ 0 → IntKind.i64.wrap ((k : Int) - 1) = ((k - 1 : Nat) : Int) := fun h => by rw [wrapI (by omega) (by omega)]; omega
   have hk1 : k - 1 < l.length := by omega
   obtain ⟨q, hq⟩ : ∃ q, l[k - 1] = q := ⟨_, rfl⟩
   have hqd : l.getD (k - 1) default = q := by simp [List.getD, hk1, hq]
   have hat : atB l k = (okB p && (decide (k = 0) || decide (cmpP q p < 0))) := by unfold atB; rw [hpd, hqd]
   have hst := allB_step l k
   rw [hi, Bool.true_and] at hst
   replace H := And.intro hlt (And.intro hkl (And.intro hp (And.intro hw (And.intro hk1 (And.intro hq (And.intro hqd (And.intro hpd H)))))))
   refine WpC.seq ?_
   refine WpC.block ?_
   refine zR ?_
   refine WpC.seq ?_
   refine WpC.val 55 (.d (.bool (badB q p k))) ?_ ?_
   ·refine WpC.drawn tabOk (by kernel_rfl) 0 (by simp) ?_
    refine yO 3 ?_
    refine yO 1 ?_
    refine yS 16 (fun g16 => ?_) (fun g16 => ?_)
    ·try (exfalso; revert g16; simp; done)
     all_goals
      have g16' := zN g16
      replace H := And.intro g16 H
      refine yO 3 ?_
      refine yO 2 ?_
      refine yS 21 (fun g21 => ?_) (fun g21 => ?_)
      ·try (exfalso; revert g21; simp; done)
       all_goals
        have g21' := zN g21
        replace H := And.intro g21 H
        iterate 11 refine yO 3 ?_
        refine yO 1 ?_
        refine DrO.nil ⟨by kernel_rfl, ?_⟩
        refine ⟨rfl, Gh.only 55 43 ?_ (by first | rfl | simp -implicitDefEqProofs [H]) (by rfl)⟩
        simp -implicitDefEqProofs [H, g16', g21', badB]
      ·try (exfalso; revert g21; simp; done)
       all_goals
        have g21' := zN g21
        replace H := And.intro g21 H
        refine yO 3 ?_
        refine yO 2 ?_
        refine yS 26 (fun g26 => ?_) (fun g26 => ?_)
        ·try (exfalso; revert g26; simp; done)
         all_goals
          have g26' := zN g26
          replace H := And.intro g26 H
          iterate 9 refine yO 3 ?_
          refine yO 2 ?_
          refine DrO.nil ⟨by kernel_rfl, ?_⟩
          refine ⟨rfl, Gh.only 55 43 ?_ (by first | rfl | simp -implicitDefEqProofs [H]) (by rfl)⟩
          simp -implicitDefEqProofs [H, g16', g21', g26', badB]
        ·try (exfalso; revert g26; simp; done)
         all_goals
          have g26' := zN g26
          replace H := And.intro g26 H
          refine yO 3 ?_
          refine yO 2 ?_
          refine yS 31 (fun g31 => ?_) (fun g31 => ?_)
          ·try (exfalso; revert g31; simp; done)
           all_goals
            have g31' := zN g31
            replace H := And.intro g31 H
            iterate 8 refine yO 3 ?_
            refine DrO.nil ⟨by kernel_rfl, ?_⟩
            refine ⟨rfl, Gh.only 55 43 ?_ (by first | rfl | simp -implicitDefEqProofs [H]) (by rfl)⟩
            simp -implicitDefEqProofs [H, g16', g21', g26', g31', badB]
          ·try (exfalso; revert g31; simp; done)
           all_goals
            have g31' := zN g31
            replace H := And.intro g31 H
            refine yO 3 ?_
            refine yO 2 ?_
            refine yS 36 (fun g36 => ?_) (fun g36 => ?_)
            ·try (exfalso; revert g36; simp; done)
             all_goals
              have g36' := zN g36
              replace H := And.intro g36 H
              iterate 6 refine yO 3 ?_
              refine yO 1 ?_
              refine DrO.nil ⟨by kernel_rfl, ?_⟩
              refine ⟨rfl, Gh.only 55 43 ?_ (by first | rfl | simp -implicitDefEqProofs [H]) (by rfl)⟩
              simp -implicitDefEqProofs [H, g16', g21', g26', g31', g36', badB]
            ·try (exfalso; revert g36; simp; done)
             all_goals
              have g36' := zN g36
              replace H := And.intro g36 H
              refine yO 3 ?_
              refine yO 2 ?_
              refine yS 41 (fun g41 => ?_) (fun g41 => ?_)
              ·try (exfalso; revert g41; simp; done)
               all_goals
                have g41' := zN g41
                replace H := And.intro g41 H
                iterate 4 refine yO 3 ?_
                refine yO 2 ?_
                refine DrO.nil ⟨by kernel_rfl, ?_⟩
                refine ⟨rfl, Gh.only 55 43 ?_ (by first | rfl | simp -implicitDefEqProofs [H]) (by rfl)⟩
                simp -implicitDefEqProofs [H, g16', g21', g26', g31', g36', g41', badB]
              ·try (exfalso; revert g41; simp; done)
               all_goals
                have g41' := zN g41
                replace H := And.intro g41 H
                refine yO 3 ?_
                refine yS 44 (fun g44 => ?_) (fun g44 => ?_)
                ·try (exfalso; revert g44; simp; done)
                 all_goals
                  have g44' := zN g44
                  have hk0 : k ≠ 0 := by omega
                  have hw2 := hw1 hk0
                  replace H := And.intro g44 (And.intro hw2 (And.intro hk0 H))
                  iterate 2 refine yO 3 ?_
                  refine yO 1 ?_
                  refine yG call_11 (compare_ok q p) ?_
                  refine yO 3 ?_
                  refine DrO.nil ⟨by kernel_rfl, ?_⟩
                  refine ⟨rfl, Gh.only 55 43 ?_ (by first | rfl | simp -implicitDefEqProofs [H]) (by rfl)⟩
                  simp -implicitDefEqProofs [H, g16', g21', g26', g31', g36', g41', g44', badB]
                ·try (exfalso; revert g44; simp; done)
                 all_goals
                  have g44' := zN g44
                  have hk0 : k = 0 := by omega
                  replace H := And.intro g44 (And.intro hk0 H)
                  iterate 3 refine yO 3 ?_
                  refine yO 2 ?_
                  refine DrO.nil ⟨by kernel_rfl, ?_⟩
                  refine ⟨rfl, Gh.only 55 43 ?_ (by first | rfl | simp -implicitDefEqProofs [H]) (by rfl)⟩
                  simp -implicitDefEqProofs [H, g16', g21', g26', g31', g36', g41', g44', badB]
    ·try (exfalso; revert g16; simp; done)
     all_goals
      have g16' := zN g16
      replace H := And.intro g16 H
      iterate 3 refine yO 3 ?_
      refine yO 1 ?_
      refine yS 26 (fun g26 => ?_) (fun g26 => ?_)
      ·try (exfalso; revert g26; simp; done)
       all_goals
        have g26' := zN g26
        replace H := And.intro g26 H
        iterate 9 refine yO 3 ?_
        refine yO 2 ?_
        refine DrO.nil ⟨by kernel_rfl, ?_⟩
        refine ⟨rfl, Gh.only 55 43 ?_ (by first | rfl | simp -implicitDefEqProofs [H]) (by rfl)⟩
        simp -implicitDefEqProofs [H, g16', g26', badB]
      ·try (exfalso; revert g26; simp; done)
       all_goals
        have g26' := zN g26
        replace H := And.intro g26 H
        refine yO 3 ?_
        refine yO 2 ?_
        refine yS 31 (fun g31 => ?_) (fun g31 => ?_)
        ·try (exfalso; revert g31; simp; done)
         all_goals
          have g31' := zN g31
          replace H := And.intro g31 H
          iterate 8 refine yO 3 ?_
          refine DrO.nil ⟨by kernel_rfl, ?_⟩
          refine ⟨rfl, Gh.only 55 43 ?_ (by first | rfl | simp -implicitDefEqProofs [H]) (by rfl)⟩
          simp -implicitDefEqProofs [H, g16', g26', g31', badB]
        ·try (exfalso; revert g31; simp; done)
         all_goals
          have g31' := zN g31
          replace H := And.intro g31 H
          refine yO 3 ?_
          refine yO 2 ?_
          refine yS 36 (fun g36 => ?_) (fun g36 => ?_)
          ·try (exfalso; revert g36; simp; done)
           all_goals
            have g36' := zN g36
            replace H := And.intro g36 H
            iterate 6 refine yO 3 ?_
            refine yO 1 ?_
            refine DrO.nil ⟨by kernel_rfl, ?_⟩
            refine ⟨rfl, Gh.only 55 43 ?_ (by first | rfl | simp -implicitDefEqProofs [H]) (by rfl)⟩
            simp -implicitDefEqProofs [H, g16', g26', g31', g36', badB]
          ·try (exfalso; revert g36; simp; done)
           all_goals
            have g36' := zN g36
            replace H := And.intro g36 H
            refine yO 3 ?_
            refine yO 2 ?_
            refine yS 41 (fun g41 => ?_) (fun g41 => ?_)
            ·try (exfalso; revert g41; simp; done)
             all_goals
              have g41' := zN g41
              replace H := And.intro g41 H
              iterate 4 refine yO 3 ?_
              refine yO 2 ?_
              refine DrO.nil ⟨by kernel_rfl, ?_⟩
              refine ⟨rfl, Gh.only 55 43 ?_ (by first | rfl | simp -implicitDefEqProofs [H]) (by rfl)⟩
              simp -implicitDefEqProofs [H, g16', g26', g31', g36', g41', badB]
            ·try (exfalso; revert g41; simp; done)
             all_goals
              have g41' := zN g41
              replace H := And.intro g41 H
              refine yO 3 ?_
              refine yS 44 (fun g44 => ?_) (fun g44 => ?_)
              ·try (exfalso; revert g44; simp; done)
               all_goals
                have g44' := zN g44
                have hk0 : k ≠ 0 := by omega
                have hw2 := hw1 hk0
                replace H := And.intro g44 (And.intro hw2 (And.intro hk0 H))
                iterate 2 refine yO 3 ?_
                refine yO 1 ?_
                refine yG call_11 (compare_ok q p) ?_
                refine yO 3 ?_
                refine DrO.nil ⟨by kernel_rfl, ?_⟩
                refine ⟨rfl, Gh.only 55 43 ?_ (by first | rfl | simp -implicitDefEqProofs [H]) (by rfl)⟩
                simp -implicitDefEqProofs [H, g16', g26', g31', g36', g41', g44', badB]
              ·try (exfalso; revert g44; simp; done)
               all_goals
                have g44' := zN g44
                have hk0 : k = 0 := by omega
                replace H := And.intro g44 (And.intro hk0 H)
                iterate 3 refine yO 3 ?_
                refine yO 2 ?_
                refine DrO.nil ⟨by kernel_rfl, ?_⟩
                refine ⟨rfl, Gh.only 55 43 ?_ (by first | rfl | simp -implicitDefEqProofs [H]) (by rfl)⟩
                simp -implicitDefEqProofs [H, g16', g26', g31', g36', g41', g44', badB]
   refine zC (fun c55 => ?_) (fun c55 => ?_)
   ·have c55' := zN c55
    rw [bad_eq, ← hat] at c55
    replace H := And.intro c55 H
    refine zR ?_
    refine WpC.ret ?_
    try simp only [blockQ, seqQ]
    refine zE ?_
    have : allB l l.length = false := allB_no hkl (by simpa using c55)
    simp [rightFB, this]
   have c55' := zN c55
   rw [bad_eq, ← hat] at c55
   replace H := And.intro c55 H
   refine WpC.skip ?_
   refine zr ?_
   exact ⟨hlt, (), by rw [hst]; simpa using c55, Gh.cut' [8, 1, 6, 7] 1 (by simp -implicitDefEqProofs [H, c55']) (by simp -implicitDefEqProofs [H, c55']) rfl (by simp) (by simp) (by simp)⟩
  refine WpC.exit ?_
  have hkn : k = l.length := by omega
  subst hkn
  refine WpC.seq ?_
  refine WpC.region ?_
  refine zO 4 ?_
  refine zS 60 (fun g60 => ?_) (fun g60 => ?_)
  ·have g60' := zN g60
   replace H := And.intro g60 H
   refine zO 5 ?_
   refine zS 65 (fun g65 => ?_) (fun g65 => ?_)
   ·have g65' := zN g65
    replace H := And.intro g65 H
    refine zO 6 ?_
    refine WpO.nil ?_
    refine WpC.ret ?_
    try simp only [blockQ, seqQ]
    refine zE ?_
    have hr : rightFB per l = (decide (22800 ≤ per) && decide (per ≤ 35999) && decide (l.length ≤ 4999)) := by rw [rightFB, hi, Bool.true_and]
    have hc2 : decide ((l.length : Int) ≤ 4999) = decide (l.length ≤ 4999) := by rw [Bool.eq_iff_iff]; simp only [decide_eq_true_eq]; omega
    first
    | (simp [hr, g60', g65', hc2]; done)
    | (simp [hr, g60']; done)
   have g65' := zN g65
   replace H := And.intro g65 H
   refine zO 6 ?_
   refine WpO.nil ?_
   refine WpC.ret ?_
   try simp only [blockQ, seqQ]
   refine zE ?_
   have hr : rightFB per l = (decide (22800 ≤ per) && decide (per ≤ 35999) && decide (l.length ≤ 4999)) := by rw [rightFB, hi, Bool.true_and]
   have hc2 : decide ((l.length : Int) ≤ 4999) = decide (l.length ≤ 4999) := by rw [Bool.eq_iff_iff]; simp only [decide_eq_true_eq]; omega
   first
   | (simp [hr, g60', g65', hc2]; done)
   | (simp [hr, g60']; done)
  have g60' := zN g60
  replace H := And.intro g60 H
  refine zO 11 ?_
  refine WpO.nil ?_
  refine WpC.ret ?_
  try simp only [blockQ, seqQ]
  refine zE ?_
  have hr : rightFB per l = (decide (22800 ≤ per) && decide (per ≤ 35999) && decide (l.length ≤ 4999)) := by rw [rightFB, hi, Bool.true_and]
  have hc2 : decide ((l.length : Int) ≤ 4999) = decide (l.length ≤ 4999) := by rw [Bool.eq_iff_iff]; simp only [decide_eq_true_eq]; omega
  first
  | (simp [hr, g60', g65', hc2]; done)
  | (simp [hr, g60']; done)
end Go.Proofs.YtjlamhilnkadcaaGreatDoor.Pay
