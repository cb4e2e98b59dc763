/- bank.Right walked. No statement of the seed is proved here. -/
import Derived.Test.YtjlamhilnkadcaaDoorBkA
namespace Go.Proofs.YtjlamhilnkadcaaDoor.Pay
open Go Go.RowKit
set_option linter.unusedVariables false
set_option linter.unusedSimpArgs false

set_option maxHeartbeats 4000000 in
theorem right_ok (per : Int) (l : List Pm) (hl : l.length ≤ 9223372036854775807) : Gives Tryd.prog 12 [.d (encF per l)] (.d (.bool (rightB per l))) := by
  refine Gives.enter tabOk Tryd.func12 rfl (by show 1 ≤ 71; decide) ?_
  simp only [Tryd.f12]
  refine qR (by simp -implicitDefEqProofs <;> rfl) ?_
  refine WpC.seq ?_
  refine qR (by simp -implicitDefEqProofs <;> rfl) ?_
  refine WpC.block ?_
  refine WpC.loopK [1, 6, 7] [8] (l.length) (() : Unit) (fun k _ => [(8, .d (.int .i64 k))]) (fun k _ => [.cells 24 [.d (dI per), .d (encPm l)]]) (fun k _ => allB l k = true) (by simp -implicitDefEqProofs <;> rfl) (Gh.cut' [8, 1, 6, 7] 1 (by simp -implicitDefEqProofs) (by simp -implicitDefEqProofs) rfl (by simp) (by simp) (by simp)) (by rfl) ?_
  rintro k ⟨⟩ hk hi
  simp only [List.cons_append, List.nil_append]
  refine qR (by simp -implicitDefEqProofs <;> rfl) ?_
  refine WpC.seq (WpC.condD (k < l.length) (by simp -implicitDefEqProofs <;> omega) (fun hlt => ?_) (fun hge => ?_))
  · refine WpC.skip ?_
    have hkl : k < l.length := by omega
    obtain ⟨p, hp⟩ : ∃ p, l[k] = p := ⟨_, rfl⟩
    have hpd : l.getD k default = p := by simp [List.getD, hkl, hp]
    have hw : IntKind.i64.wrap ((k : Int) + 1) = k + 1 := wrapI (by omega) (by omega)
    have hw1 : k ≠ 0 → IntKind.i64.wrap ((k : Int) - 1) = ((k - 1 : Nat) : Int) := fun h => by rw [wrapI (by omega) (by omega)]; omega
    have hk1 : k - 1 < l.length := by omega
    obtain ⟨q, hq⟩ : ∃ q, l[k - 1] = q := ⟨_, rfl⟩
    have hqd : l.getD (k - 1) default = q := by simp [List.getD, hk1, hq]
    have hat : atB l k = (okB p && (decide (k = 0) || decide (cmpP q p < 0))) := by unfold atB; rw [hpd, hqd]
    have hst := allB_step l k
    rw [hi, Bool.true_and] at hst
    have H1 := And.intro hlt (And.intro hkl (And.intro hp (And.intro hw (And.intro hk1 (And.intro hq (And.intro hqd hpd))))))
    refine WpC.seq ?_
    refine WpC.block ?_
    refine qR (by simp -implicitDefEqProofs [H1] <;> rfl) ?_
    refine WpC.seq ?_
    refine WpC.val 55 (.d (.bool (badB q p k))) ?_ ?_
    · refine WpC.drawn tabOk (by kernel_rfl) 0 (by simp) ?_
      refine DrO.run (fz := []) 3 (by simp -implicitDefEqProofs [H1] <;> first | exact ⟨rfl, rfl, rfl, rfl⟩ | rfl) ?_
      refine DrO.run (fz := []) 1 (by simp -implicitDefEqProofs [H1] <;> first | exact ⟨rfl, rfl, rfl, rfl⟩ | rfl) ?_
      refine DrO.splitB 16 (by simp -implicitDefEqProofs [H1] <;> rfl) (by rfl) (fun g16 => ?_) (fun g16 => ?_)
      · try (exfalso; revert g16; simp; done)
        all_goals
          have g16' := g16; first | simp only [dT, dF] at g16' | try simp at g16'
          refine DrO.run (fz := []) 3 (by simp -implicitDefEqProofs [H1, g16] <;> first | exact ⟨rfl, rfl, rfl, rfl⟩ | rfl) ?_
          refine DrO.run (fz := []) 2 (by simp -implicitDefEqProofs [H1, g16] <;> first | exact ⟨rfl, rfl, rfl, rfl⟩ | rfl) ?_
          refine DrO.splitB 21 (by simp -implicitDefEqProofs [H1, g16] <;> rfl) (by rfl) (fun g21 => ?_) (fun g21 => ?_)
          · try (exfalso; revert g21; simp; done)
            all_goals
              have g21' := g21; first | simp only [dT, dF] at g21' | try simp at g21'
              refine DrO.run (fz := []) 3 (by simp -implicitDefEqProofs [H1, g16, g21] <;> first | exact ⟨rfl, rfl, rfl, rfl⟩ | rfl) ?_
              refine DrO.run (fz := []) 3 (by simp -implicitDefEqProofs [H1, g16, g21] <;> first | exact ⟨rfl, rfl, rfl, rfl⟩ | rfl) ?_
              refine DrO.run (fz := []) 3 (by simp -implicitDefEqProofs [H1, g16, g21] <;> first | exact ⟨rfl, rfl, rfl, rfl⟩ | rfl) ?_
              refine DrO.run (fz := []) 3 (by simp -implicitDefEqProofs [H1, g16, g21] <;> first | exact ⟨rfl, rfl, rfl, rfl⟩ | rfl) ?_
              refine DrO.run (fz := []) 3 (by simp -implicitDefEqProofs [H1, g16, g21] <;> first | exact ⟨rfl, rfl, rfl, rfl⟩ | rfl) ?_
              refine DrO.run (fz := []) 3 (by simp -implicitDefEqProofs [H1, g16, g21] <;> first | exact ⟨rfl, rfl, rfl, rfl⟩ | rfl) ?_
              refine DrO.run (fz := []) 3 (by simp -implicitDefEqProofs [H1, g16, g21] <;> first | exact ⟨rfl, rfl, rfl, rfl⟩ | rfl) ?_
              refine DrO.run (fz := []) 3 (by simp -implicitDefEqProofs [H1, g16, g21] <;> first | exact ⟨rfl, rfl, rfl, rfl⟩ | rfl) ?_
              refine DrO.run (fz := []) 3 (by simp -implicitDefEqProofs [H1, g16, g21] <;> first | exact ⟨rfl, rfl, rfl, rfl⟩ | rfl) ?_
              refine DrO.run (fz := []) 3 (by simp -implicitDefEqProofs [H1, g16, g21] <;> first | exact ⟨rfl, rfl, rfl, rfl⟩ | rfl) ?_
              refine DrO.run (fz := []) 3 (by simp -implicitDefEqProofs [H1, g16, g21] <;> first | exact ⟨rfl, rfl, rfl, rfl⟩ | rfl) ?_
              refine DrO.run (fz := []) 1 (by simp -implicitDefEqProofs [H1, g16, g21] <;> first | exact ⟨rfl, rfl, rfl, rfl⟩ | rfl) ?_
              refine DrO.nil ⟨by kernel_rfl, ?_⟩
              refine ⟨rfl, Gh.only 55 43 ?_ (by first | rfl | simp -implicitDefEqProofs [H1, g16, g21]) (by rfl)⟩
              simp -implicitDefEqProofs [H1, g16, g21, g16', g21', badB]
          · try (exfalso; revert g21; simp; done)
            all_goals
              have g21' := g21; first | simp only [dT, dF] at g21' | try simp at g21'
              refine DrO.run (fz := []) 3 (by simp -implicitDefEqProofs [H1, g16, g21] <;> first | exact ⟨rfl, rfl, rfl, rfl⟩ | rfl) ?_
              refine DrO.run (fz := []) 2 (by simp -implicitDefEqProofs [H1, g16, g21] <;> first | exact ⟨rfl, rfl, rfl, rfl⟩ | rfl) ?_
              refine DrO.splitB 26 (by simp -implicitDefEqProofs [H1, g16, g21] <;> rfl) (by rfl) (fun g26 => ?_) (fun g26 => ?_)
              · try (exfalso; revert g26; simp; done)
                all_goals
                  have g26' := g26; first | simp only [dT, dF] at g26' | try simp at g26'
                  refine DrO.run (fz := []) 3 (by simp -implicitDefEqProofs [H1, g16, g21, g26] <;> first | exact ⟨rfl, rfl, rfl, rfl⟩ | rfl) ?_
                  refine DrO.run (fz := []) 3 (by simp -implicitDefEqProofs [H1, g16, g21, g26] <;> first | exact ⟨rfl, rfl, rfl, rfl⟩ | rfl) ?_
                  refine DrO.run (fz := []) 3 (by simp -implicitDefEqProofs [H1, g16, g21, g26] <;> first | exact ⟨rfl, rfl, rfl, rfl⟩ | rfl) ?_
                  refine DrO.run (fz := []) 3 (by simp -implicitDefEqProofs [H1, g16, g21, g26] <;> first | exact ⟨rfl, rfl, rfl, rfl⟩ | rfl) ?_
                  refine DrO.run (fz := []) 3 (by simp -implicitDefEqProofs [H1, g16, g21, g26] <;> first | exact ⟨rfl, rfl, rfl, rfl⟩ | rfl) ?_
                  refine DrO.run (fz := []) 3 (by simp -implicitDefEqProofs [H1, g16, g21, g26] <;> first | exact ⟨rfl, rfl, rfl, rfl⟩ | rfl) ?_
                  refine DrO.run (fz := []) 3 (by simp -implicitDefEqProofs [H1, g16, g21, g26] <;> first | exact ⟨rfl, rfl, rfl, rfl⟩ | rfl) ?_
                  refine DrO.run (fz := []) 3 (by simp -implicitDefEqProofs [H1, g16, g21, g26] <;> first | exact ⟨rfl, rfl, rfl, rfl⟩ | rfl) ?_
                  refine DrO.run (fz := []) 3 (by simp -implicitDefEqProofs [H1, g16, g21, g26] <;> first | exact ⟨rfl, rfl, rfl, rfl⟩ | rfl) ?_
                  refine DrO.run (fz := []) 2 (by simp -implicitDefEqProofs [H1, g16, g21, g26] <;> first | exact ⟨rfl, rfl, rfl, rfl⟩ | rfl) ?_
                  refine DrO.nil ⟨by kernel_rfl, ?_⟩
                  refine ⟨rfl, Gh.only 55 43 ?_ (by first | rfl | simp -implicitDefEqProofs [H1, g16, g21, g26]) (by rfl)⟩
                  simp -implicitDefEqProofs [H1, g16, g21, g26, g16', g21', g26', badB]
              · try (exfalso; revert g26; simp; done)
                all_goals
                  have g26' := g26; first | simp only [dT, dF] at g26' | try simp at g26'
                  refine DrO.run (fz := []) 3 (by simp -implicitDefEqProofs [H1, g16, g21, g26] <;> first | exact ⟨rfl, rfl, rfl, rfl⟩ | rfl) ?_
                  refine DrO.run (fz := []) 2 (by simp -implicitDefEqProofs [H1, g16, g21, g26] <;> first | exact ⟨rfl, rfl, rfl, rfl⟩ | rfl) ?_
                  refine DrO.splitB 31 (by simp -implicitDefEqProofs [H1, g16, g21, g26] <;> rfl) (by rfl) (fun g31 => ?_) (fun g31 => ?_)
                  · try (exfalso; revert g31; simp; done)
                    all_goals
                      have g31' := g31; first | simp only [dT, dF] at g31' | try simp at g31'
                      refine DrO.run (fz := []) 3 (by simp -implicitDefEqProofs [H1, g16, g21, g26, g31] <;> first | exact ⟨rfl, rfl, rfl, rfl⟩ | rfl) ?_
                      refine DrO.run (fz := []) 3 (by simp -implicitDefEqProofs [H1, g16, g21, g26, g31] <;> first | exact ⟨rfl, rfl, rfl, rfl⟩ | rfl) ?_
                      refine DrO.run (fz := []) 3 (by simp -implicitDefEqProofs [H1, g16, g21, g26, g31] <;> first | exact ⟨rfl, rfl, rfl, rfl⟩ | rfl) ?_
                      refine DrO.run (fz := []) 3 (by simp -implicitDefEqProofs [H1, g16, g21, g26, g31] <;> first | exact ⟨rfl, rfl, rfl, rfl⟩ | rfl) ?_
                      refine DrO.run (fz := []) 3 (by simp -implicitDefEqProofs [H1, g16, g21, g26, g31] <;> first | exact ⟨rfl, rfl, rfl, rfl⟩ | rfl) ?_
                      refine DrO.run (fz := []) 3 (by simp -implicitDefEqProofs [H1, g16, g21, g26, g31] <;> first | exact ⟨rfl, rfl, rfl, rfl⟩ | rfl) ?_
                      refine DrO.run (fz := []) 3 (by simp -implicitDefEqProofs [H1, g16, g21, g26, g31] <;> first | exact ⟨rfl, rfl, rfl, rfl⟩ | rfl) ?_
                      refine DrO.run (fz := []) 3 (by simp -implicitDefEqProofs [H1, g16, g21, g26, g31] <;> first | exact ⟨rfl, rfl, rfl, rfl⟩ | rfl) ?_
                      refine DrO.nil ⟨by kernel_rfl, ?_⟩
                      refine ⟨rfl, Gh.only 55 43 ?_ (by first | rfl | simp -implicitDefEqProofs [H1, g16, g21, g26, g31]) (by rfl)⟩
                      simp -implicitDefEqProofs [H1, g16, g21, g26, g31, g16', g21', g26', g31', badB]
                  · try (exfalso; revert g31; simp; done)
                    all_goals
                      have g31' := g31; first | simp only [dT, dF] at g31' | try simp at g31'
                      refine DrO.run (fz := []) 3 (by simp -implicitDefEqProofs [H1, g16, g21, g26, g31] <;> first | exact ⟨rfl, rfl, rfl, rfl⟩ | rfl) ?_
                      refine DrO.run (fz := []) 2 (by simp -implicitDefEqProofs [H1, g16, g21, g26, g31] <;> first | exact ⟨rfl, rfl, rfl, rfl⟩ | rfl) ?_
                      refine DrO.splitB 36 (by simp -implicitDefEqProofs [H1, g16, g21, g26, g31] <;> rfl) (by rfl) (fun g36 => ?_) (fun g36 => ?_)
                      · try (exfalso; revert g36; simp; done)
                        all_goals
                          have g36' := g36; first | simp only [dT, dF] at g36' | try simp at g36'
                          refine DrO.run (fz := []) 3 (by simp -implicitDefEqProofs [H1, g16, g21, g26, g31, g36] <;> first | exact ⟨rfl, rfl, rfl, rfl⟩ | rfl) ?_
                          refine DrO.run (fz := []) 3 (by simp -implicitDefEqProofs [H1, g16, g21, g26, g31, g36] <;> first | exact ⟨rfl, rfl, rfl, rfl⟩ | rfl) ?_
                          refine DrO.run (fz := []) 3 (by simp -implicitDefEqProofs [H1, g16, g21, g26, g31, g36] <;> first | exact ⟨rfl, rfl, rfl, rfl⟩ | rfl) ?_
                          refine DrO.run (fz := []) 3 (by simp -implicitDefEqProofs [H1, g16, g21, g26, g31, g36] <;> first | exact ⟨rfl, rfl, rfl, rfl⟩ | rfl) ?_
                          refine DrO.run (fz := []) 3 (by simp -implicitDefEqProofs [H1, g16, g21, g26, g31, g36] <;> first | exact ⟨rfl, rfl, rfl, rfl⟩ | rfl) ?_
                          refine DrO.run (fz := []) 3 (by simp -implicitDefEqProofs [H1, g16, g21, g26, g31, g36] <;> first | exact ⟨rfl, rfl, rfl, rfl⟩ | rfl) ?_
                          refine DrO.run (fz := []) 1 (by simp -implicitDefEqProofs [H1, g16, g21, g26, g31, g36] <;> first | exact ⟨rfl, rfl, rfl, rfl⟩ | rfl) ?_
                          refine DrO.nil ⟨by kernel_rfl, ?_⟩
                          refine ⟨rfl, Gh.only 55 43 ?_ (by first | rfl | simp -implicitDefEqProofs [H1, g16, g21, g26, g31, g36]) (by rfl)⟩
                          simp -implicitDefEqProofs [H1, g16, g21, g26, g31, g36, g16', g21', g26', g31', g36', badB]
                      · try (exfalso; revert g36; simp; done)
                        all_goals
                          have g36' := g36; first | simp only [dT, dF] at g36' | try simp at g36'
                          refine DrO.run (fz := []) 3 (by simp -implicitDefEqProofs [H1, g16, g21, g26, g31, g36] <;> first | exact ⟨rfl, rfl, rfl, rfl⟩ | rfl) ?_
                          refine DrO.run (fz := []) 2 (by simp -implicitDefEqProofs [H1, g16, g21, g26, g31, g36] <;> first | exact ⟨rfl, rfl, rfl, rfl⟩ | rfl) ?_
                          refine DrO.splitB 41 (by simp -implicitDefEqProofs [H1, g16, g21, g26, g31, g36] <;> rfl) (by rfl) (fun g41 => ?_) (fun g41 => ?_)
                          · try (exfalso; revert g41; simp; done)
                            all_goals
                              have g41' := g41; first | simp only [dT, dF] at g41' | try simp at g41'
                              refine DrO.run (fz := []) 3 (by simp -implicitDefEqProofs [H1, g16, g21, g26, g31, g36, g41] <;> first | exact ⟨rfl, rfl, rfl, rfl⟩ | rfl) ?_
                              refine DrO.run (fz := []) 3 (by simp -implicitDefEqProofs [H1, g16, g21, g26, g31, g36, g41] <;> first | exact ⟨rfl, rfl, rfl, rfl⟩ | rfl) ?_
                              refine DrO.run (fz := []) 3 (by simp -implicitDefEqProofs [H1, g16, g21, g26, g31, g36, g41] <;> first | exact ⟨rfl, rfl, rfl, rfl⟩ | rfl) ?_
                              refine DrO.run (fz := []) 3 (by simp -implicitDefEqProofs [H1, g16, g21, g26, g31, g36, g41] <;> first | exact ⟨rfl, rfl, rfl, rfl⟩ | rfl) ?_
                              refine DrO.run (fz := []) 2 (by simp -implicitDefEqProofs [H1, g16, g21, g26, g31, g36, g41] <;> first | exact ⟨rfl, rfl, rfl, rfl⟩ | rfl) ?_
                              refine DrO.nil ⟨by kernel_rfl, ?_⟩
                              refine ⟨rfl, Gh.only 55 43 ?_ (by first | rfl | simp -implicitDefEqProofs [H1, g16, g21, g26, g31, g36, g41]) (by rfl)⟩
                              simp -implicitDefEqProofs [H1, g16, g21, g26, g31, g36, g41, g16', g21', g26', g31', g36', g41', badB]
                          · try (exfalso; revert g41; simp; done)
                            all_goals
                              have g41' := g41; first | simp only [dT, dF] at g41' | try simp at g41'
                              refine DrO.run (fz := []) 3 (by simp -implicitDefEqProofs [H1, g16, g21, g26, g31, g36, g41] <;> first | exact ⟨rfl, rfl, rfl, rfl⟩ | rfl) ?_
                              refine DrO.splitB 44 (by simp -implicitDefEqProofs [H1, g16, g21, g26, g31, g36, g41] <;> rfl) (by rfl) (fun g44 => ?_) (fun g44 => ?_)
                              · try (exfalso; revert g44; simp; done)
                                all_goals
                                  have g44' := g44; first | simp only [dT, dF] at g44' | try simp at g44'
                                  have hk0 : k ≠ 0 := by omega
                                  have hw2 := hw1 hk0
                                  refine DrO.run (fz := []) 3 (by simp -implicitDefEqProofs [H1, g16, g21, g26, g31, g36, g41, g44, hw2, hk0] <;> first | exact ⟨rfl, rfl, rfl, rfl⟩ | rfl) ?_
                                  refine DrO.run (fz := []) 3 (by simp -implicitDefEqProofs [H1, g16, g21, g26, g31, g36, g41, g44, hw2, hk0] <;> first | exact ⟨rfl, rfl, rfl, rfl⟩ | rfl) ?_
                                  refine DrO.run (fz := []) 1 (by simp -implicitDefEqProofs [H1, g16, g21, g26, g31, g36, g41, g44, hw2, hk0] <;> first | exact ⟨rfl, rfl, rfl, rfl⟩ | rfl) ?_
                                  refine DrO.data (by simp) rfl (by simp -implicitDefEqProofs [H1, g16, g21, g26, g31, g36, g41, g44, hw2, hk0] <;> rfl) (by simp -implicitDefEqProofs [H1, g16, g21, g26, g31, g36, g41, g44, hw2, hk0] <;> rfl) (by simp -implicitDefEqProofs [H1, g16, g21, g26, g31, g36, g41, g44, hw2, hk0] <;> rfl) call_20 (compare_ok q p) (by rfl) (by simp -implicitDefEqProofs [H1, g16, g21, g26, g31, g36, g41, g44, hw2, hk0] <;> rfl) ?_
                                  refine DrO.run (fz := []) 3 (by simp -implicitDefEqProofs [H1, g16, g21, g26, g31, g36, g41, g44, hw2, hk0] <;> first | exact ⟨rfl, rfl, rfl, rfl⟩ | rfl) ?_
                                  refine DrO.nil ⟨by kernel_rfl, ?_⟩
                                  refine ⟨rfl, Gh.only 55 43 ?_ (by first | rfl | simp -implicitDefEqProofs [H1, g16, g21, g26, g31, g36, g41, g44, hw2, hk0]) (by rfl)⟩
                                  simp -implicitDefEqProofs [H1, g16, g21, g26, g31, g36, g41, g44, hw2, hk0, g16', g21', g26', g31', g36', g41', g44', badB]
                              · try (exfalso; revert g44; simp; done)
                                all_goals
                                  have g44' := g44; first | simp only [dT, dF] at g44' | try simp at g44'
                                  have hk0 : k = 0 := by omega
                                  refine DrO.run (fz := []) 3 (by simp -implicitDefEqProofs [H1, g16, g21, g26, g31, g36, g41, g44, hk0] <;> first | exact ⟨rfl, rfl, rfl, rfl⟩ | rfl) ?_
                                  refine DrO.run (fz := []) 3 (by simp -implicitDefEqProofs [H1, g16, g21, g26, g31, g36, g41, g44, hk0] <;> first | exact ⟨rfl, rfl, rfl, rfl⟩ | rfl) ?_
                                  refine DrO.run (fz := []) 3 (by simp -implicitDefEqProofs [H1, g16, g21, g26, g31, g36, g41, g44, hk0] <;> first | exact ⟨rfl, rfl, rfl, rfl⟩ | rfl) ?_
                                  refine DrO.run (fz := []) 2 (by simp -implicitDefEqProofs [H1, g16, g21, g26, g31, g36, g41, g44, hk0] <;> first | exact ⟨rfl, rfl, rfl, rfl⟩ | rfl) ?_
                                  refine DrO.nil ⟨by kernel_rfl, ?_⟩
                                  refine ⟨rfl, Gh.only 55 43 ?_ (by first | rfl | simp -implicitDefEqProofs [H1, g16, g21, g26, g31, g36, g41, g44, hk0]) (by rfl)⟩
                                  simp -implicitDefEqProofs [H1, g16, g21, g26, g31, g36, g41, g44, hk0, g16', g21', g26', g31', g36', g41', g44', badB]
      · try (exfalso; revert g16; simp; done)
        all_goals
          have g16' := g16; first | simp only [dT, dF] at g16' | try simp at g16'
          refine DrO.run (fz := []) 3 (by simp -implicitDefEqProofs [H1, g16] <;> first | exact ⟨rfl, rfl, rfl, rfl⟩ | rfl) ?_
          refine DrO.run (fz := []) 3 (by simp -implicitDefEqProofs [H1, g16] <;> first | exact ⟨rfl, rfl, rfl, rfl⟩ | rfl) ?_
          refine DrO.run (fz := []) 3 (by simp -implicitDefEqProofs [H1, g16] <;> first | exact ⟨rfl, rfl, rfl, rfl⟩ | rfl) ?_
          refine DrO.run (fz := []) 1 (by simp -implicitDefEqProofs [H1, g16] <;> first | exact ⟨rfl, rfl, rfl, rfl⟩ | rfl) ?_
          refine DrO.splitB 26 (by simp -implicitDefEqProofs [H1, g16] <;> rfl) (by rfl) (fun g26 => ?_) (fun g26 => ?_)
          · try (exfalso; revert g26; simp; done)
            all_goals
              have g26' := g26; first | simp only [dT, dF] at g26' | try simp at g26'
              refine DrO.run (fz := []) 3 (by simp -implicitDefEqProofs [H1, g16, g26] <;> first | exact ⟨rfl, rfl, rfl, rfl⟩ | rfl) ?_
              refine DrO.run (fz := []) 3 (by simp -implicitDefEqProofs [H1, g16, g26] <;> first | exact ⟨rfl, rfl, rfl, rfl⟩ | rfl) ?_
              refine DrO.run (fz := []) 3 (by simp -implicitDefEqProofs [H1, g16, g26] <;> first | exact ⟨rfl, rfl, rfl, rfl⟩ | rfl) ?_
              refine DrO.run (fz := []) 3 (by simp -implicitDefEqProofs [H1, g16, g26] <;> first | exact ⟨rfl, rfl, rfl, rfl⟩ | rfl) ?_
              refine DrO.run (fz := []) 3 (by simp -implicitDefEqProofs [H1, g16, g26] <;> first | exact ⟨rfl, rfl, rfl, rfl⟩ | rfl) ?_
              refine DrO.run (fz := []) 3 (by simp -implicitDefEqProofs [H1, g16, g26] <;> first | exact ⟨rfl, rfl, rfl, rfl⟩ | rfl) ?_
              refine DrO.run (fz := []) 3 (by simp -implicitDefEqProofs [H1, g16, g26] <;> first | exact ⟨rfl, rfl, rfl, rfl⟩ | rfl) ?_
              refine DrO.run (fz := []) 3 (by simp -implicitDefEqProofs [H1, g16, g26] <;> first | exact ⟨rfl, rfl, rfl, rfl⟩ | rfl) ?_
              refine DrO.run (fz := []) 3 (by simp -implicitDefEqProofs [H1, g16, g26] <;> first | exact ⟨rfl, rfl, rfl, rfl⟩ | rfl) ?_
              refine DrO.run (fz := []) 2 (by simp -implicitDefEqProofs [H1, g16, g26] <;> first | exact ⟨rfl, rfl, rfl, rfl⟩ | rfl) ?_
              refine DrO.nil ⟨by kernel_rfl, ?_⟩
              refine ⟨rfl, Gh.only 55 43 ?_ (by first | rfl | simp -implicitDefEqProofs [H1, g16, g26]) (by rfl)⟩
              simp -implicitDefEqProofs [H1, g16, g26, g16', g26', badB]
          · try (exfalso; revert g26; simp; done)
            all_goals
              have g26' := g26; first | simp only [dT, dF] at g26' | try simp at g26'
              refine DrO.run (fz := []) 3 (by simp -implicitDefEqProofs [H1, g16, g26] <;> first | exact ⟨rfl, rfl, rfl, rfl⟩ | rfl) ?_
              refine DrO.run (fz := []) 2 (by simp -implicitDefEqProofs [H1, g16, g26] <;> first | exact ⟨rfl, rfl, rfl, rfl⟩ | rfl) ?_
              refine DrO.splitB 31 (by simp -implicitDefEqProofs [H1, g16, g26] <;> rfl) (by rfl) (fun g31 => ?_) (fun g31 => ?_)
              · try (exfalso; revert g31; simp; done)
                all_goals
                  have g31' := g31; first | simp only [dT, dF] at g31' | try simp at g31'
                  refine DrO.run (fz := []) 3 (by simp -implicitDefEqProofs [H1, g16, g26, g31] <;> first | exact ⟨rfl, rfl, rfl, rfl⟩ | rfl) ?_
                  refine DrO.run (fz := []) 3 (by simp -implicitDefEqProofs [H1, g16, g26, g31] <;> first | exact ⟨rfl, rfl, rfl, rfl⟩ | rfl) ?_
                  refine DrO.run (fz := []) 3 (by simp -implicitDefEqProofs [H1, g16, g26, g31] <;> first | exact ⟨rfl, rfl, rfl, rfl⟩ | rfl) ?_
                  refine DrO.run (fz := []) 3 (by simp -implicitDefEqProofs [H1, g16, g26, g31] <;> first | exact ⟨rfl, rfl, rfl, rfl⟩ | rfl) ?_
                  refine DrO.run (fz := []) 3 (by simp -implicitDefEqProofs [H1, g16, g26, g31] <;> first | exact ⟨rfl, rfl, rfl, rfl⟩ | rfl) ?_
                  refine DrO.run (fz := []) 3 (by simp -implicitDefEqProofs [H1, g16, g26, g31] <;> first | exact ⟨rfl, rfl, rfl, rfl⟩ | rfl) ?_
                  refine DrO.run (fz := []) 3 (by simp -implicitDefEqProofs [H1, g16, g26, g31] <;> first | exact ⟨rfl, rfl, rfl, rfl⟩ | rfl) ?_
                  refine DrO.run (fz := []) 3 (by simp -implicitDefEqProofs [H1, g16, g26, g31] <;> first | exact ⟨rfl, rfl, rfl, rfl⟩ | rfl) ?_
                  refine DrO.nil ⟨by kernel_rfl, ?_⟩
                  refine ⟨rfl, Gh.only 55 43 ?_ (by first | rfl | simp -implicitDefEqProofs [H1, g16, g26, g31]) (by rfl)⟩
                  simp -implicitDefEqProofs [H1, g16, g26, g31, g16', g26', g31', badB]
              · try (exfalso; revert g31; simp; done)
                all_goals
                  have g31' := g31; first | simp only [dT, dF] at g31' | try simp at g31'
                  refine DrO.run (fz := []) 3 (by simp -implicitDefEqProofs [H1, g16, g26, g31] <;> first | exact ⟨rfl, rfl, rfl, rfl⟩ | rfl) ?_
                  refine DrO.run (fz := []) 2 (by simp -implicitDefEqProofs [H1, g16, g26, g31] <;> first | exact ⟨rfl, rfl, rfl, rfl⟩ | rfl) ?_
                  refine DrO.splitB 36 (by simp -implicitDefEqProofs [H1, g16, g26, g31] <;> rfl) (by rfl) (fun g36 => ?_) (fun g36 => ?_)
                  · try (exfalso; revert g36; simp; done)
                    all_goals
                      have g36' := g36; first | simp only [dT, dF] at g36' | try simp at g36'
                      refine DrO.run (fz := []) 3 (by simp -implicitDefEqProofs [H1, g16, g26, g31, g36] <;> first | exact ⟨rfl, rfl, rfl, rfl⟩ | rfl) ?_
                      refine DrO.run (fz := []) 3 (by simp -implicitDefEqProofs [H1, g16, g26, g31, g36] <;> first | exact ⟨rfl, rfl, rfl, rfl⟩ | rfl) ?_
                      refine DrO.run (fz := []) 3 (by simp -implicitDefEqProofs [H1, g16, g26, g31, g36] <;> first | exact ⟨rfl, rfl, rfl, rfl⟩ | rfl) ?_
                      refine DrO.run (fz := []) 3 (by simp -implicitDefEqProofs [H1, g16, g26, g31, g36] <;> first | exact ⟨rfl, rfl, rfl, rfl⟩ | rfl) ?_
                      refine DrO.run (fz := []) 3 (by simp -implicitDefEqProofs [H1, g16, g26, g31, g36] <;> first | exact ⟨rfl, rfl, rfl, rfl⟩ | rfl) ?_
                      refine DrO.run (fz := []) 3 (by simp -implicitDefEqProofs [H1, g16, g26, g31, g36] <;> first | exact ⟨rfl, rfl, rfl, rfl⟩ | rfl) ?_
                      refine DrO.run (fz := []) 1 (by simp -implicitDefEqProofs [H1, g16, g26, g31, g36] <;> first | exact ⟨rfl, rfl, rfl, rfl⟩ | rfl) ?_
                      refine DrO.nil ⟨by kernel_rfl, ?_⟩
                      refine ⟨rfl, Gh.only 55 43 ?_ (by first | rfl | simp -implicitDefEqProofs [H1, g16, g26, g31, g36]) (by rfl)⟩
                      simp -implicitDefEqProofs [H1, g16, g26, g31, g36, g16', g26', g31', g36', badB]
                  · try (exfalso; revert g36; simp; done)
                    all_goals
                      have g36' := g36; first | simp only [dT, dF] at g36' | try simp at g36'
                      refine DrO.run (fz := []) 3 (by simp -implicitDefEqProofs [H1, g16, g26, g31, g36] <;> first | exact ⟨rfl, rfl, rfl, rfl⟩ | rfl) ?_
                      refine DrO.run (fz := []) 2 (by simp -implicitDefEqProofs [H1, g16, g26, g31, g36] <;> first | exact ⟨rfl, rfl, rfl, rfl⟩ | rfl) ?_
                      refine DrO.splitB 41 (by simp -implicitDefEqProofs [H1, g16, g26, g31, g36] <;> rfl) (by rfl) (fun g41 => ?_) (fun g41 => ?_)
                      · try (exfalso; revert g41; simp; done)
                        all_goals
                          have g41' := g41; first | simp only [dT, dF] at g41' | try simp at g41'
                          refine DrO.run (fz := []) 3 (by simp -implicitDefEqProofs [H1, g16, g26, g31, g36, g41] <;> first | exact ⟨rfl, rfl, rfl, rfl⟩ | rfl) ?_
                          refine DrO.run (fz := []) 3 (by simp -implicitDefEqProofs [H1, g16, g26, g31, g36, g41] <;> first | exact ⟨rfl, rfl, rfl, rfl⟩ | rfl) ?_
                          refine DrO.run (fz := []) 3 (by simp -implicitDefEqProofs [H1, g16, g26, g31, g36, g41] <;> first | exact ⟨rfl, rfl, rfl, rfl⟩ | rfl) ?_
                          refine DrO.run (fz := []) 3 (by simp -implicitDefEqProofs [H1, g16, g26, g31, g36, g41] <;> first | exact ⟨rfl, rfl, rfl, rfl⟩ | rfl) ?_
                          refine DrO.run (fz := []) 2 (by simp -implicitDefEqProofs [H1, g16, g26, g31, g36, g41] <;> first | exact ⟨rfl, rfl, rfl, rfl⟩ | rfl) ?_
                          refine DrO.nil ⟨by kernel_rfl, ?_⟩
                          refine ⟨rfl, Gh.only 55 43 ?_ (by first | rfl | simp -implicitDefEqProofs [H1, g16, g26, g31, g36, g41]) (by rfl)⟩
                          simp -implicitDefEqProofs [H1, g16, g26, g31, g36, g41, g16', g26', g31', g36', g41', badB]
                      · try (exfalso; revert g41; simp; done)
                        all_goals
                          have g41' := g41; first | simp only [dT, dF] at g41' | try simp at g41'
                          refine DrO.run (fz := []) 3 (by simp -implicitDefEqProofs [H1, g16, g26, g31, g36, g41] <;> first | exact ⟨rfl, rfl, rfl, rfl⟩ | rfl) ?_
                          refine DrO.splitB 44 (by simp -implicitDefEqProofs [H1, g16, g26, g31, g36, g41] <;> rfl) (by rfl) (fun g44 => ?_) (fun g44 => ?_)
                          · try (exfalso; revert g44; simp; done)
                            all_goals
                              have g44' := g44; first | simp only [dT, dF] at g44' | try simp at g44'
                              have hk0 : k ≠ 0 := by omega
                              have hw2 := hw1 hk0
                              refine DrO.run (fz := []) 3 (by simp -implicitDefEqProofs [H1, g16, g26, g31, g36, g41, g44, hw2, hk0] <;> first | exact ⟨rfl, rfl, rfl, rfl⟩ | rfl) ?_
                              refine DrO.run (fz := []) 3 (by simp -implicitDefEqProofs [H1, g16, g26, g31, g36, g41, g44, hw2, hk0] <;> first | exact ⟨rfl, rfl, rfl, rfl⟩ | rfl) ?_
                              refine DrO.run (fz := []) 1 (by simp -implicitDefEqProofs [H1, g16, g26, g31, g36, g41, g44, hw2, hk0] <;> first | exact ⟨rfl, rfl, rfl, rfl⟩ | rfl) ?_
                              refine DrO.data (by simp) rfl (by simp -implicitDefEqProofs [H1, g16, g26, g31, g36, g41, g44, hw2, hk0] <;> rfl) (by simp -implicitDefEqProofs [H1, g16, g26, g31, g36, g41, g44, hw2, hk0] <;> rfl) (by simp -implicitDefEqProofs [H1, g16, g26, g31, g36, g41, g44, hw2, hk0] <;> rfl) call_20 (compare_ok q p) (by rfl) (by simp -implicitDefEqProofs [H1, g16, g26, g31, g36, g41, g44, hw2, hk0] <;> rfl) ?_
                              refine DrO.run (fz := []) 3 (by simp -implicitDefEqProofs [H1, g16, g26, g31, g36, g41, g44, hw2, hk0] <;> first | exact ⟨rfl, rfl, rfl, rfl⟩ | rfl) ?_
                              refine DrO.nil ⟨by kernel_rfl, ?_⟩
                              refine ⟨rfl, Gh.only 55 43 ?_ (by first | rfl | simp -implicitDefEqProofs [H1, g16, g26, g31, g36, g41, g44, hw2, hk0]) (by rfl)⟩
                              simp -implicitDefEqProofs [H1, g16, g26, g31, g36, g41, g44, hw2, hk0, g16', g26', g31', g36', g41', g44', badB]
                          · try (exfalso; revert g44; simp; done)
                            all_goals
                              have g44' := g44; first | simp only [dT, dF] at g44' | try simp at g44'
                              have hk0 : k = 0 := by omega
                              refine DrO.run (fz := []) 3 (by simp -implicitDefEqProofs [H1, g16, g26, g31, g36, g41, g44, hk0] <;> first | exact ⟨rfl, rfl, rfl, rfl⟩ | rfl) ?_
                              refine DrO.run (fz := []) 3 (by simp -implicitDefEqProofs [H1, g16, g26, g31, g36, g41, g44, hk0] <;> first | exact ⟨rfl, rfl, rfl, rfl⟩ | rfl) ?_
                              refine DrO.run (fz := []) 3 (by simp -implicitDefEqProofs [H1, g16, g26, g31, g36, g41, g44, hk0] <;> first | exact ⟨rfl, rfl, rfl, rfl⟩ | rfl) ?_
                              refine DrO.run (fz := []) 2 (by simp -implicitDefEqProofs [H1, g16, g26, g31, g36, g41, g44, hk0] <;> first | exact ⟨rfl, rfl, rfl, rfl⟩ | rfl) ?_
                              refine DrO.nil ⟨by kernel_rfl, ?_⟩
                              refine ⟨rfl, Gh.only 55 43 ?_ (by first | rfl | simp -implicitDefEqProofs [H1, g16, g26, g31, g36, g41, g44, hk0]) (by rfl)⟩
                              simp -implicitDefEqProofs [H1, g16, g26, g31, g36, g41, g44, hk0, g16', g26', g31', g36', g41', g44', badB]
    refine WpC.condR (by simp -implicitDefEqProofs [H1] <;> rfl) (by rfl) (fun c55 => ?_) (fun c55 => ?_)
    · have c55' := c55; first | simp only [dT, dF] at c55' | try simp at c55'
      rw [bad_eq, ← hat] at c55
      refine qR (by simp -implicitDefEqProofs [H1, c55] <;> rfl) ?_
      refine WpC.ret ?_
      try simp only [blockQ, seqQ]
      refine retD_i (by simp -implicitDefEqProofs [H1, c55] <;> rfl) (by simp -implicitDefEqProofs [H1, c55] <;> rfl) ?_
      have : allB l l.length = false := allB_no hkl (by simpa using c55)
      simp [rightB, this]
    have c55' := c55; first | simp only [dT, dF] at c55' | try simp at c55'
    rw [bad_eq, ← hat] at c55
    refine WpC.skip ?_
    refine qr (by simp -implicitDefEqProofs [H1, c55] <;> rfl) ?_
    exact ⟨hlt, (), by rw [hst]; simpa using c55, Gh.cut' [8, 1, 6, 7] 1 (by simp -implicitDefEqProofs [H1, c55, c55']) (by simp -implicitDefEqProofs [H1, c55, c55']) rfl (by simp) (by simp) (by simp)⟩
  refine WpC.exit ?_
  have hkn : k = l.length := by omega
  subst hkn
  refine WpC.seq ?_
  refine WpC.region ?_
  refine WpO.run tabOk 4 (by simp -implicitDefEqProofs <;> first | exact ⟨rfl, rfl⟩ | rfl) ?_
  refine WpO.splitB 60 (by simp -implicitDefEqProofs <;> rfl) (by rfl) (fun g60 => ?_) (fun g60 => ?_)
  · have g60' := g60; first | simp only [dT, dF] at g60' | try simp at g60'
    refine WpO.run tabOk 5 (by simp -implicitDefEqProofs [g60] <;> first | exact ⟨rfl, rfl⟩ | rfl) ?_
    refine WpO.splitB 65 (by simp -implicitDefEqProofs [g60] <;> rfl) (by rfl) (fun g65 => ?_) (fun g65 => ?_)
    · have g65' := g65; first | simp only [dT, dF] at g65' | try simp at g65'
      refine WpO.run tabOk 6 (by simp -implicitDefEqProofs [g60, g65] <;> first | exact ⟨rfl, rfl⟩ | rfl) ?_
      refine WpO.nil ?_
      refine WpC.ret ?_
      try simp only [blockQ, seqQ]
      refine retD_i (by simp -implicitDefEqProofs [g60, g65] <;> rfl) (by simp -implicitDefEqProofs [g60, g65] <;> rfl) ?_
      have hr : rightB per l = (decide (22800 ≤ per) && decide (per ≤ 35999) && decide (l.length ≤ 4999)) := by rw [rightB, hi, Bool.true_and]
      have hc2 : decide ((l.length : Int) ≤ 4999) = decide (l.length ≤ 4999) := by rw [Bool.eq_iff_iff]; simp only [decide_eq_true_eq]; omega
      first
      | (simp [hr, g60', g65', hc2]; done)
      | (simp [hr, g60']; done)
    have g65' := g65; first | simp only [dT, dF] at g65' | try simp at g65'
    refine WpO.run tabOk 6 (by simp -implicitDefEqProofs [g60, g65] <;> first | exact ⟨rfl, rfl⟩ | rfl) ?_
    refine WpO.nil ?_
    refine WpC.ret ?_
    try simp only [blockQ, seqQ]
    refine retD_i (by simp -implicitDefEqProofs [g60, g65] <;> rfl) (by simp -implicitDefEqProofs [g60, g65] <;> rfl) ?_
    have hr : rightB per l = (decide (22800 ≤ per) && decide (per ≤ 35999) && decide (l.length ≤ 4999)) := by rw [rightB, hi, Bool.true_and]
    have hc2 : decide ((l.length : Int) ≤ 4999) = decide (l.length ≤ 4999) := by rw [Bool.eq_iff_iff]; simp only [decide_eq_true_eq]; omega
    first
    | (simp [hr, g60', g65', hc2]; done)
    | (simp [hr, g60']; done)
  have g60' := g60; first | simp only [dT, dF] at g60' | try simp at g60'
  refine WpO.run tabOk 11 (by simp -implicitDefEqProofs [g60] <;> first | exact ⟨rfl, rfl⟩ | rfl) ?_
  refine WpO.nil ?_
  refine WpC.ret ?_
  try simp only [blockQ, seqQ]
  refine retD_i (by simp -implicitDefEqProofs [g60] <;> rfl) (by simp -implicitDefEqProofs [g60] <;> rfl) ?_
  have hr : rightB per l = (decide (22800 ≤ per) && decide (per ≤ 35999) && decide (l.length ≤ 4999)) := by rw [rightB, hi, Bool.true_and]
  have hc2 : decide ((l.length : Int) ≤ 4999) = decide (l.length ≤ 4999) := by rw [Bool.eq_iff_iff]; simp only [decide_eq_true_eq]; omega
  first
  | (simp [hr, g60', g65', hc2]; done)
  | (simp [hr, g60']; done)
end Go.Proofs.YtjlamhilnkadcaaDoor.Pay
