/- Sums of weights; what is asked of each; a row of one's own. No statement of the seed is proved here. -/
import Derived.Test.YtfbpcjkhgiickaaSpJ
namespace Go.Proofs.Ytfbpcjkhgiickaa.Pay
open Go Go.RowKit
set_option linter.unusedVariables false
set_option linter.unusedSimpArgs false
set_option linter.unusedSectionVars false

def in64 (n : Int) : Prop := -9223372036854775808 ≤ n ∧ n ≤ 9223372036854775807
def addB (a b : Int) : Bool := decide (-9223372036854775807 ≤ a ∧ -9223372036854775807 ≤ b ∧ -9223372036854775807 ≤ a + b ∧ a + b ≤ 9223372036854775807)
set_option maxHeartbeats 20000000 in
theorem addM_ok (a b : Int) (ha : in64 a) (hb : in64 b) : Gives Try.prog 27 [.d (dI a), .d (dI b)] (.tup [.d (dI (if addB a b = true then a + b else 0)), .d (dI (if addB a b = true then 0 else 3))]) := by
  unfold in64 at ha hb
  obtain ⟨c, hc⟩ : ∃ c, IntKind.i64.wrap (a + b) = c := ⟨_, rfl⟩
  have hc2 : (c = a + b ∨ c = a + b - 18446744073709551616 ∨ c = a + b + 18446744073709551616) ∧ -9223372036854775808 ≤ c ∧ c ≤ 9223372036854775807 := by
    rw [← hc, IntKind.wrap_i64]; omega
  have hbad : (¬ -9223372036854775807 ≤ a ∨ ¬ -9223372036854775807 ≤ b ∨ ¬ -9223372036854775807 ≤ c ∨ (0 < a ∧ 0 < b ∧ c < 0) ∨ (a < 0 ∧ b < 0 ∧ 0 ≤ c)) ↔ addB a b = false := by
    unfold addB
    rw [decide_eq_false_iff_not]; omega
  have hgood : addB a b = true → c = a + b := fun h => by
    unfold addB at h
    rw [decide_eq_true_iff] at h; omega
  have r1 := rightM_ok a
  have r2 := rightM_ok b
  have r3 := rightM_ok c
  unfold rightM at r1 r2 r3
  refine Gives.enter tabOk Try.func27 rfl (by show 2 ≤ 48; decide) ?_
  simp only [Try.f27]
  refine WpC.seq (WpC.ops tabOk (r := []) (by simp -implicitDefEqProofs [hc] <;> rfl) rfl ?_)
  refine WpC.seq (WpC.ops tabOk (r := []) (by simp -implicitDefEqProofs [hc] <;> rfl) rfl ?_)
  refine WpC.seq ?_
  refine WpC.seq ?_
  refine WpC.val 46 (.d (.bool (decide (¬ -9223372036854775807 ≤ a ∨ ¬ -9223372036854775807 ≤ b ∨ ¬ -9223372036854775807 ≤ c ∨ (0 < a ∧ 0 < b ∧ c < 0) ∨ (a < 0 ∧ b < 0 ∧ 0 ≤ c))))) ?_ ?_
  · refine WpC.region ?_
    refine WpO.run tabOk 1 (by simp -implicitDefEqProofs [hc] <;> first | exact ⟨rfl, rfl⟩ | rfl) ?_
    refine WpO.data (by simp) rfl (by simp -implicitDefEqProofs [hc] <;> rfl) (by simp -implicitDefEqProofs [hc] <;> rfl) (by simp -implicitDefEqProofs [hc] <;> rfl) call_28 (by simp) (r1) (by rfl) (by simp -implicitDefEqProofs [hc] <;> rfl) ?_
    refine WpO.run tabOk 2 (by simp -implicitDefEqProofs [hc] <;> first | exact ⟨rfl, rfl⟩ | rfl) ?_
    refine WpO.splitB 13 (by simp -implicitDefEqProofs [hc] <;> rfl) (by rfl) (fun g13 => ?_) (fun g13 => ?_)
    · try (exfalso; revert g13; simp; done)
      all_goals
        have g13' := g13; first | simp only [dT, dF] at g13' | try simp at g13'
        refine WpO.run tabOk 33 (by simp -implicitDefEqProofs [hc, g13] <;> first | exact ⟨rfl, rfl⟩ | rfl) ?_
        refine WpO.nil ?_
        refine ⟨rfl, Gh.only 46 38 ?_ (by first | rfl | simp -implicitDefEqProofs [hc, g13]) (by rfl)⟩
        all_goals (clear r1 r2 r3 hbad hgood hc2 hc; first | (simp_all; done) | (simp_all; omega) | omega)
    · try (exfalso; revert g13; simp; done)
      all_goals
        have g13' := g13; first | simp only [dT, dF] at g13' | try simp at g13'
        refine WpO.run tabOk 1 (by simp -implicitDefEqProofs [hc, g13] <;> first | exact ⟨rfl, rfl⟩ | rfl) ?_
        refine WpO.data (by simp) rfl (by simp -implicitDefEqProofs [hc, g13] <;> rfl) (by simp -implicitDefEqProofs [hc, g13] <;> rfl) (by simp -implicitDefEqProofs [hc, g13] <;> rfl) call_28 (by simp) (r2) (by rfl) (by simp -implicitDefEqProofs [hc, g13] <;> rfl) ?_
        refine WpO.run tabOk 3 (by simp -implicitDefEqProofs [hc, g13] <;> first | exact ⟨rfl, rfl⟩ | rfl) ?_
        refine WpO.splitB 18 (by simp -implicitDefEqProofs [hc, g13] <;> rfl) (by rfl) (fun g18 => ?_) (fun g18 => ?_)
        · try (exfalso; revert g18; simp; done)
          all_goals
            have g18' := g18; first | simp only [dT, dF] at g18' | try simp at g18'
            refine WpO.run tabOk 28 (by simp -implicitDefEqProofs [hc, g13, g18] <;> first | exact ⟨rfl, rfl⟩ | rfl) ?_
            refine WpO.nil ?_
            refine ⟨rfl, Gh.only 46 39 ?_ (by first | rfl | simp -implicitDefEqProofs [hc, g13, g18]) (by rfl)⟩
            all_goals (clear r1 r2 r3 hbad hgood hc2 hc; first | (simp_all; done) | (simp_all; omega) | omega)
        · try (exfalso; revert g18; simp; done)
          all_goals
            have g18' := g18; first | simp only [dT, dF] at g18' | try simp at g18'
            refine WpO.run tabOk 1 (by simp -implicitDefEqProofs [hc, g13, g18] <;> first | exact ⟨rfl, rfl⟩ | rfl) ?_
            refine WpO.data (by simp) rfl (by simp -implicitDefEqProofs [hc, g13, g18] <;> rfl) (by simp -implicitDefEqProofs [hc, g13, g18] <;> rfl) (by simp -implicitDefEqProofs [hc, g13, g18] <;> rfl) call_28 (by simp) (r3) (by rfl) (by simp -implicitDefEqProofs [hc, g13, g18] <;> rfl) ?_
            refine WpO.run tabOk 3 (by simp -implicitDefEqProofs [hc, g13, g18] <;> first | exact ⟨rfl, rfl⟩ | rfl) ?_
            refine WpO.splitB 23 (by simp -implicitDefEqProofs [hc, g13, g18] <;> rfl) (by rfl) (fun g23 => ?_) (fun g23 => ?_)
            · try (exfalso; revert g23; simp; done)
              all_goals
                have g23' := g23; first | simp only [dT, dF] at g23' | try simp at g23'
                refine WpO.run tabOk 23 (by simp -implicitDefEqProofs [hc, g13, g18, g23] <;> first | exact ⟨rfl, rfl⟩ | rfl) ?_
                refine WpO.nil ?_
                refine ⟨rfl, Gh.only 46 40 ?_ (by first | rfl | simp -implicitDefEqProofs [hc, g13, g18, g23]) (by rfl)⟩
                all_goals (clear r1 r2 r3 hbad hgood hc2 hc; first | (simp_all; done) | (simp_all; omega) | omega)
            · try (exfalso; revert g23; simp; done)
              all_goals
                have g23' := g23; first | simp only [dT, dF] at g23' | try simp at g23'
                refine WpO.run tabOk 3 (by simp -implicitDefEqProofs [hc, g13, g18, g23] <;> first | exact ⟨rfl, rfl⟩ | rfl) ?_
                refine WpO.splitB 26 (by simp -implicitDefEqProofs [hc, g13, g18, g23] <;> rfl) (by rfl) (fun g26 => ?_) (fun g26 => ?_)
                · try (exfalso; revert g26; simp; done)
                  all_goals
                    have g26' := g26; first | simp only [dT, dF] at g26' | try simp at g26'
                    refine WpO.run tabOk 4 (by simp -implicitDefEqProofs [hc, g13, g18, g23, g26] <;> first | exact ⟨rfl, rfl⟩ | rfl) ?_
                    refine WpO.splitB 30 (by simp -implicitDefEqProofs [hc, g13, g18, g23, g26] <;> rfl) (by rfl) (fun g30 => ?_) (fun g30 => ?_)
                    · try (exfalso; revert g30; simp; done)
                      all_goals
                        have g30' := g30; first | simp only [dT, dF] at g30' | try simp at g30'
                        refine WpO.run tabOk 5 (by simp -implicitDefEqProofs [hc, g13, g18, g23, g26, g30] <;> first | exact ⟨rfl, rfl⟩ | rfl) ?_
                        refine WpO.splitB 35 (by simp -implicitDefEqProofs [hc, g13, g18, g23, g26, g30] <;> rfl) (by rfl) (fun g35 => ?_) (fun g35 => ?_)
                        · try (exfalso; revert g35; simp; done)
                          all_goals
                            have g35' := g35; first | simp only [dT, dF] at g35' | try simp at g35'
                            refine WpO.run tabOk 11 (by simp -implicitDefEqProofs [hc, g13, g18, g23, g26, g30, g35] <;> first | exact ⟨rfl, rfl⟩ | rfl) ?_
                            refine WpO.nil ?_
                            refine ⟨rfl, Gh.only 46 43 ?_ (by first | rfl | simp -implicitDefEqProofs [hc, g13, g18, g23, g26, g30, g35]) (by rfl)⟩
                            all_goals (clear r1 r2 r3 hbad hgood hc2 hc; first | (simp_all; done) | (simp_all; omega) | omega)
                        · try (exfalso; revert g35; simp; done)
                          all_goals
                            have g35' := g35; first | simp only [dT, dF] at g35' | try simp at g35'
                            refine WpO.run tabOk 3 (by simp -implicitDefEqProofs [hc, g13, g18, g23, g26, g30, g35] <;> first | exact ⟨rfl, rfl⟩ | rfl) ?_
                            refine WpO.splitB 38 (by simp -implicitDefEqProofs [hc, g13, g18, g23, g26, g30, g35] <;> rfl) (by rfl) (fun g38 => ?_) (fun g38 => ?_)
                            · try (exfalso; revert g38; simp; done)
                              all_goals
                                have g38' := g38; first | simp only [dT, dF] at g38' | try simp at g38'
                                refine WpO.run tabOk 4 (by simp -implicitDefEqProofs [hc, g13, g18, g23, g26, g30, g35, g38] <;> first | exact ⟨rfl, rfl⟩ | rfl) ?_
                                refine WpO.splitB 42 (by simp -implicitDefEqProofs [hc, g13, g18, g23, g26, g30, g35, g38] <;> rfl) (by rfl) (fun g42 => ?_) (fun g42 => ?_)
                                · try (exfalso; revert g42; simp; done)
                                  all_goals
                                    have g42' := g42; first | simp only [dT, dF] at g42' | try simp at g42'
                                    refine WpO.run tabOk 4 (by simp -implicitDefEqProofs [hc, g13, g18, g23, g26, g30, g35, g38, g42] <;> first | exact ⟨rfl, rfl⟩ | rfl) ?_
                                    refine WpO.nil ?_
                                    refine ⟨rfl, Gh.only 46 45 ?_ (by first | rfl | simp -implicitDefEqProofs [hc, g13, g18, g23, g26, g30, g35, g38, g42]) (by rfl)⟩
                                    all_goals (clear r1 r2 r3 hbad hgood hc2 hc; first | (simp_all; done) | (simp_all; omega) | omega)
                                · try (exfalso; revert g42; simp; done)
                                  all_goals
                                    have g42' := g42; first | simp only [dT, dF] at g42' | try simp at g42'
                                    refine WpO.run tabOk 4 (by simp -implicitDefEqProofs [hc, g13, g18, g23, g26, g30, g35, g38, g42] <;> first | exact ⟨rfl, rfl⟩ | rfl) ?_
                                    refine WpO.nil ?_
                                    refine ⟨rfl, Gh.only 46 45 ?_ (by first | rfl | simp -implicitDefEqProofs [hc, g13, g18, g23, g26, g30, g35, g38, g42]) (by rfl)⟩
                                    all_goals (clear r1 r2 r3 hbad hgood hc2 hc; first | (simp_all; done) | (simp_all; omega) | omega)
                            · try (exfalso; revert g38; simp; done)
                              all_goals
                                have g38' := g38; first | simp only [dT, dF] at g38' | try simp at g38'
                                refine WpO.run tabOk 8 (by simp -implicitDefEqProofs [hc, g13, g18, g23, g26, g30, g35, g38] <;> first | exact ⟨rfl, rfl⟩ | rfl) ?_
                                refine WpO.nil ?_
                                refine ⟨rfl, Gh.only 46 44 ?_ (by first | rfl | simp -implicitDefEqProofs [hc, g13, g18, g23, g26, g30, g35, g38]) (by rfl)⟩
                                all_goals (clear r1 r2 r3 hbad hgood hc2 hc; first | (simp_all; done) | (simp_all; omega) | omega)
                    · try (exfalso; revert g30; simp; done)
                      all_goals
                        have g30' := g30; first | simp only [dT, dF] at g30' | try simp at g30'
                        refine WpO.run tabOk 8 (by simp -implicitDefEqProofs [hc, g13, g18, g23, g26, g30] <;> first | exact ⟨rfl, rfl⟩ | rfl) ?_
                        refine WpO.splitB 38 (by simp -implicitDefEqProofs [hc, g13, g18, g23, g26, g30] <;> rfl) (by rfl) (fun g38 => ?_) (fun g38 => ?_)
                        · try (exfalso; revert g38; simp; done)
                          all_goals
                            have g38' := g38; first | simp only [dT, dF] at g38' | try simp at g38'
                            refine WpO.run tabOk 4 (by simp -implicitDefEqProofs [hc, g13, g18, g23, g26, g30, g38] <;> first | exact ⟨rfl, rfl⟩ | rfl) ?_
                            refine WpO.splitB 42 (by simp -implicitDefEqProofs [hc, g13, g18, g23, g26, g30, g38] <;> rfl) (by rfl) (fun g42 => ?_) (fun g42 => ?_)
                            · try (exfalso; revert g42; simp; done)
                              all_goals
                                have g42' := g42; first | simp only [dT, dF] at g42' | try simp at g42'
                                refine WpO.run tabOk 4 (by simp -implicitDefEqProofs [hc, g13, g18, g23, g26, g30, g38, g42] <;> first | exact ⟨rfl, rfl⟩ | rfl) ?_
                                refine WpO.nil ?_
                                refine ⟨rfl, Gh.only 46 44 ?_ (by first | rfl | simp -implicitDefEqProofs [hc, g13, g18, g23, g26, g30, g38, g42]) (by rfl)⟩
                                all_goals (clear r1 r2 r3 hbad hgood hc2 hc; first | (simp_all; done) | (simp_all; omega) | omega)
                            · try (exfalso; revert g42; simp; done)
                              all_goals
                                have g42' := g42; first | simp only [dT, dF] at g42' | try simp at g42'
                                refine WpO.run tabOk 4 (by simp -implicitDefEqProofs [hc, g13, g18, g23, g26, g30, g38, g42] <;> first | exact ⟨rfl, rfl⟩ | rfl) ?_
                                refine WpO.nil ?_
                                refine ⟨rfl, Gh.only 46 44 ?_ (by first | rfl | simp -implicitDefEqProofs [hc, g13, g18, g23, g26, g30, g38, g42]) (by rfl)⟩
                                all_goals (clear r1 r2 r3 hbad hgood hc2 hc; first | (simp_all; done) | (simp_all; omega) | omega)
                        · try (exfalso; revert g38; simp; done)
                          all_goals
                            have g38' := g38; first | simp only [dT, dF] at g38' | try simp at g38'
                            refine WpO.run tabOk 8 (by simp -implicitDefEqProofs [hc, g13, g18, g23, g26, g30, g38] <;> first | exact ⟨rfl, rfl⟩ | rfl) ?_
                            refine WpO.nil ?_
                            refine ⟨rfl, Gh.only 46 43 ?_ (by first | rfl | simp -implicitDefEqProofs [hc, g13, g18, g23, g26, g30, g38]) (by rfl)⟩
                            all_goals (clear r1 r2 r3 hbad hgood hc2 hc; first | (simp_all; done) | (simp_all; omega) | omega)
                · try (exfalso; revert g26; simp; done)
                  all_goals
                    have g26' := g26; first | simp only [dT, dF] at g26' | try simp at g26'
                    refine WpO.run tabOk 12 (by simp -implicitDefEqProofs [hc, g13, g18, g23, g26] <;> first | exact ⟨rfl, rfl⟩ | rfl) ?_
                    refine WpO.splitB 38 (by simp -implicitDefEqProofs [hc, g13, g18, g23, g26] <;> rfl) (by rfl) (fun g38 => ?_) (fun g38 => ?_)
                    · try (exfalso; revert g38; simp; done)
                      all_goals
                        have g38' := g38; first | simp only [dT, dF] at g38' | try simp at g38'
                        refine WpO.run tabOk 4 (by simp -implicitDefEqProofs [hc, g13, g18, g23, g26, g38] <;> first | exact ⟨rfl, rfl⟩ | rfl) ?_
                        refine WpO.splitB 42 (by simp -implicitDefEqProofs [hc, g13, g18, g23, g26, g38] <;> rfl) (by rfl) (fun g42 => ?_) (fun g42 => ?_)
                        · try (exfalso; revert g42; simp; done)
                          all_goals
                            have g42' := g42; first | simp only [dT, dF] at g42' | try simp at g42'
                            refine WpO.run tabOk 4 (by simp -implicitDefEqProofs [hc, g13, g18, g23, g26, g38, g42] <;> first | exact ⟨rfl, rfl⟩ | rfl) ?_
                            refine WpO.nil ?_
                            refine ⟨rfl, Gh.only 46 43 ?_ (by first | rfl | simp -implicitDefEqProofs [hc, g13, g18, g23, g26, g38, g42]) (by rfl)⟩
                            all_goals (clear r1 r2 r3 hbad hgood hc2 hc; first | (simp_all; done) | (simp_all; omega) | omega)
                        · try (exfalso; revert g42; simp; done)
                          all_goals
                            have g42' := g42; first | simp only [dT, dF] at g42' | try simp at g42'
                            refine WpO.run tabOk 4 (by simp -implicitDefEqProofs [hc, g13, g18, g23, g26, g38, g42] <;> first | exact ⟨rfl, rfl⟩ | rfl) ?_
                            refine WpO.nil ?_
                            refine ⟨rfl, Gh.only 46 43 ?_ (by first | rfl | simp -implicitDefEqProofs [hc, g13, g18, g23, g26, g38, g42]) (by rfl)⟩
                            all_goals (clear r1 r2 r3 hbad hgood hc2 hc; first | (simp_all; done) | (simp_all; omega) | omega)
                    · try (exfalso; revert g38; simp; done)
                      all_goals
                        have g38' := g38; first | simp only [dT, dF] at g38' | try simp at g38'
                        refine WpO.run tabOk 8 (by simp -implicitDefEqProofs [hc, g13, g18, g23, g26, g38] <;> first | exact ⟨rfl, rfl⟩ | rfl) ?_
                        refine WpO.nil ?_
                        refine ⟨rfl, Gh.only 46 42 ?_ (by first | rfl | simp -implicitDefEqProofs [hc, g13, g18, g23, g26, g38]) (by rfl)⟩
                        all_goals (clear r1 r2 r3 hbad hgood hc2 hc; first | (simp_all; done) | (simp_all; omega) | omega)
  refine WpC.condD (¬ -9223372036854775807 ≤ a ∨ ¬ -9223372036854775807 ≤ b ∨ ¬ -9223372036854775807 ≤ c ∨ (0 < a ∧ 0 < b ∧ c < 0) ∨ (a < 0 ∧ b < 0 ∧ 0 ≤ c)) (by simp -implicitDefEqProofs [hc]) (fun d46 => ?_) (fun d46 => ?_)
  · refine WpC.seq (WpC.ops tabOk (r := []) (by simp -implicitDefEqProofs [hc, d46] <;> rfl) rfl ?_)
    refine WpC.ret ?_
    try simp only [blockQ, seqQ]
    refine retD_i (by simp -implicitDefEqProofs [hc, d46] <;> rfl) (by simp -implicitDefEqProofs [hc, d46] <;> rfl) ?_
    simp [hbad.1 d46]
  · refine WpC.skip ?_
    refine WpC.seq (WpC.ops tabOk (r := []) (by simp -implicitDefEqProofs [hc, d46] <;> rfl) rfl ?_)
    refine WpC.ret ?_
    try simp only [blockQ, seqQ]
    refine retD_i (by simp -implicitDefEqProofs [hc, d46] <;> rfl) (by simp -implicitDefEqProofs [hc, d46] <;> rfl) ?_
    have hg : addB a b = true := by cases h : addB a b with | true => rfl | false => exact absurd (hbad.2 h) d46
    simp [hg, hgood hg]

theorem sum_take {l : List Int} {k : Nat} (h : k < l.length) : (l.take (k + 1)).sum = (l.take k).sum + l[k] := by
  rw [List.take_add_one, List.getElem?_eq_getElem h]
  simp only [Option.toList_some, List.sum_append, List.sum_cons, List.sum_nil]
  omega
theorem sum_nonneg : ∀ {l : List Int}, (∀ x ∈ l, 0 ≤ x) → 0 ≤ l.sum
  | [], _ => by simp
  | x :: l, h => by
    have h1 := h x (by simp)
    have h2 := sum_nonneg (l := l) fun y hy => h y (by simp [hy])
    rw [List.sum_cons]; omega
theorem sum_take_le {l : List Int} (h : ∀ x ∈ l, 0 ≤ x) (k : Nat) : (l.take k).sum ≤ l.sum := by
  have e : l.sum = (l.take k).sum + (l.drop k).sum := by rw [← List.sum_append, List.take_append_drop]
  have := sum_nonneg (l := l.drop k) fun x hx => h x (List.mem_of_mem_drop hx)
  omega
def sumB (l : List Int) : Bool := decide (l.sum ≤ 9223372036854775807)
theorem sumM_ok (l : List Int) (h : ∀ x ∈ l, inN x) (hl : l.length ≤ 1000000) : Gives Try.prog 16 [.d (.list 1 (l.map dI))] (.tup [.d (dI (if sumB l = true then l.sum else 0)), .d (dI (if sumB l = true then 0 else 3))]) := by
  have h0 : ∀ x ∈ l, 0 ≤ x := fun x hx => (h x hx).1
  refine Gives.enter tabOk Try.func16 rfl (by show 1 ≤ 27; decide) ?_
  simp only [Try.f16]
  refine WpC.seq (WpC.ops tabOk (r := []) (by simp -implicitDefEqProofs <;> rfl) rfl ?_)
  refine WpC.seq (WpC.ops tabOk (r := []) (by simp -implicitDefEqProofs <;> rfl) rfl ?_)
  refine WpC.seq ?_
  refine WpC.seq (WpC.ops tabOk (r := []) (by simp -implicitDefEqProofs <;> rfl) rfl ?_)
  refine WpC.block ?_
  refine WpC.loopK [9, 10] [4, 11] (l.length) (() : Unit) (fun k _ => [(4, .d (dI (l.take k).sum)), (11, .d (.int .i64 k))]) (fun k _ => []) (fun k _ => (l.take k).sum ≤ 9223372036854775807) (by simp -implicitDefEqProofs <;> rfl) (Gh.cut' [4, 11, 9, 10] 0 (by simp -implicitDefEqProofs) (by simp -implicitDefEqProofs) rfl (by simp) (by simp) (by simp)) (by simp) ?_
  rintro k ⟨⟩ hk hi
  simp only [List.cons_append, List.nil_append]
  refine WpC.seq (WpC.ops tabOk (r := []) (by simp -implicitDefEqProofs <;> rfl) rfl ?_)
  refine WpC.seq (WpC.condD (k < l.length) (by simp -implicitDefEqProofs <;> omega) (fun hlt => ?_) (fun hge => ?_))
  · refine WpC.skip ?_
    have hst := sum_take hlt
    obtain ⟨x, hx⟩ : ∃ x, l[k] = x := ⟨_, rfl⟩
    have hxn := h x (hx ▸ List.getElem_mem hlt)
    have hw : IntKind.i64.wrap ((k : Int) + 1) = k + 1 := wrapI (by omega) (by omega)
    have hs0 := sum_nonneg (l := l.take k) fun y hy => h0 y (List.mem_of_mem_take hy)
    obtain ⟨s, hs⟩ : ∃ s, (l.take k).sum = s := ⟨_, rfl⟩
    rw [hs, hx] at hst
    rw [hs] at hs0 hi
    unfold inN at hxn
    have ha := addM_ok s x (by unfold in64; omega) (by unfold in64; omega)
    obtain ⟨ab, hab⟩ : ∃ b, addB s x = b := ⟨_, rfl⟩
    have hab2 : ab = decide (s + x ≤ 9223372036854775807) := by rw [← hab]; unfold addB; congr 1; exact propext ⟨fun q => by omega, fun q => by omega⟩
    rw [hab] at ha
    refine WpC.seq ?_
    refine WpC.block ?_
    refine WpC.seq (WpC.ops tabOk (r := []) (by simp -implicitDefEqProofs [hlt, hx, hw, hs] <;> rfl) rfl ?_)
    refine WpC.seq ?_
    refine WpC.region ?_
    refine WpO.run tabOk 2 (by simp -implicitDefEqProofs [hlt, hx, hw, hs] <;> first | exact ⟨rfl, rfl⟩ | rfl) ?_
    refine WpO.data (by simp) rfl (by simp -implicitDefEqProofs [hlt, hx, hw, hs] <;> rfl) (by simp -implicitDefEqProofs [hlt, hx, hw, hs] <;> rfl) (by simp -implicitDefEqProofs [hlt, hx, hw, hs] <;> rfl) call_27 (by simp) (ha) (by rfl) (by simp -implicitDefEqProofs [hlt, hx, hw, hs] <;> rfl) ?_
    refine WpO.run tabOk 5 (by simp -implicitDefEqProofs [hlt, hx, hw, hs] <;> first | exact ⟨rfl, rfl⟩ | rfl) ?_
    refine WpO.nil ?_
    refine WpC.seq ?_
    refine WpC.seq (WpC.ops tabOk (r := []) (by simp -implicitDefEqProofs [hlt, hx, hw, hs] <;> rfl) rfl ?_)
    refine WpC.condR (by simp -implicitDefEqProofs [hlt, hx, hw, hs] <;> rfl) (by rfl) (fun c22 => ?_) (fun c22 => ?_)
    · have c22' := c22; first | simp only [dT, dF] at c22' | try simp at c22'
      refine WpC.seq (WpC.ops tabOk (r := []) (by simp -implicitDefEqProofs [hlt, hx, hw, hs, c22] <;> rfl) rfl ?_)
      refine WpC.ret ?_
      try simp only [blockQ, seqQ]
      refine retD_i (by simp -implicitDefEqProofs [hlt, hx, hw, hs, c22] <;> rfl) (by simp -implicitDefEqProofs [hlt, hx, hw, hs, c22] <;> rfl) ?_
      have habf : ab = false := by simpa using c22
      have hbig : ¬ (l.take (k + 1)).sum ≤ 9223372036854775807 := by rw [hst]; rw [hab2] at habf; simpa using habf
      have := sum_take_le h0 (k + 1)
      have hsb : sumB l = false := decide_eq_false (by omega)
      simp [hsb, habf]
    · have c22' := c22; first | simp only [dT, dF] at c22' | try simp at c22'
      have habt : ab = true := by simpa using c22
      refine WpC.skip ?_
      refine WpC.ops tabOk (r := []) (by simp -implicitDefEqProofs [hlt, hx, hw, hs, c22, habt] <;> rfl) rfl ?_
      refine WpC.ops tabOk (r := []) (by simp -implicitDefEqProofs [hlt, hx, hw, hs, c22, habt] <;> rfl) rfl ?_
      exact ⟨hlt, (), by rw [hst]; simp at c22; rw [hab2] at c22; simpa using c22, Gh.cut' [4, 11, 9, 10] 0 (by simp -implicitDefEqProofs [hlt, hx, hw, hs, c22, habt, c22', hst]) (by simp) rfl (by simp) (by simp) (by simp)⟩
  · refine WpC.exit ?_
    have hkn : k = l.length := by omega
    subst hkn
    rw [List.take_of_length_le (Nat.le_refl _)] at hi
    refine WpC.seq (WpC.ops tabOk (r := []) (by simp -implicitDefEqProofs <;> rfl) rfl ?_)
    refine WpC.ret ?_
    try simp only [blockQ, seqQ]
    refine retD_i (by simp -implicitDefEqProofs <;> rfl) (by simp -implicitDefEqProofs <;> rfl) ?_
    have hsb : sumB l = true := decide_eq_true hi
    simp [hsb]

theorem neg_ok (w : Int) : Gives Try.prog 15 [.d (dI w)] (.d (.bool (decide (w < 0)))) := by
  refine Gives.enter tabOk Try.func15 rfl (by show 1 ≤ 5; decide) ?_
  simp only [Try.f15]
  refine WpC.seq (WpC.ops tabOk (r := []) (by simp -implicitDefEqProofs <;> rfl) rfl ?_)
  refine WpC.seq (WpC.ops tabOk (r := []) (by simp -implicitDefEqProofs <;> rfl) rfl ?_)
  refine WpC.ret ?_
  try simp only [blockQ, seqQ]
  refine retD_i (by simp -implicitDefEqProofs <;> rfl) (by simp -implicitDefEqProofs <;> rfl) ?_
  simp -implicitDefEqProofs
theorem find_take {α : Type} (f : α → Bool) {l : List α} {k : Nat} (h : k < l.length) (h0 : (l.take k).any f = false) (h1 : f l[k] = true) : l.findIdx? f = some k := by
  rw [List.findIdx?_eq_some_iff_getElem]
  refine ⟨h, h1, fun j hj => ?_⟩
  rw [List.any_eq_false] at h0
  refine h0 _ ?_
  rw [List.mem_take_iff_getElem]
  exact ⟨j, by omega, rfl⟩
def idxP {α : Type} (f : α → Bool) (l : List α) : Int := match l.findIdx? f with | some i => i | none => -1
theorem indexI_ok (l : List Int) (hl : l.length ≤ 1000000000) : Gives Try.prog 26 [.d (.list 1 (l.map dI)), .fn 15 []] (.d (dI (idxP (fun w => decide (w < 0)) l))) := by
  obtain ⟨f, hf⟩ : ∃ f : Int → Bool, (fun x : Int => decide (x < 0)) = f := ⟨_, rfl⟩
  have hff : ∀ x : Int, decide (x < 0) = f x := fun x => by rw [← hf]
  rw [hf]
  refine Gives.enter tabOk Try.func26 rfl (by show 2 ≤ 19; decide) ?_
  simp only [Try.f26]
  refine WpC.seq (WpC.ops tabOk (r := []) (by simp -implicitDefEqProofs <;> rfl) rfl ?_)
  refine WpC.seq ?_
  refine WpC.seq (WpC.ops tabOk (r := []) (by simp -implicitDefEqProofs <;> rfl) rfl ?_)
  refine WpC.block ?_
  refine WpC.loopK [0, 1, 7] [8] (l.length) (() : Unit) (fun k _ => [(8, .d (.int .i64 k))]) (fun k _ => []) (fun k _ => (l.take k).any f = false) (by simp -implicitDefEqProofs <;> rfl) (Gh.cut' [8, 0, 1, 7] 0 (by simp -implicitDefEqProofs) (by simp -implicitDefEqProofs) rfl (by simp) (by simp) (by simp)) (by simp) ?_
  rintro k ⟨⟩ hk hi
  simp only [List.cons_append, List.nil_append]
  refine WpC.seq (WpC.ops tabOk (r := []) (by simp -implicitDefEqProofs <;> rfl) rfl ?_)
  refine WpC.seq (WpC.condD (k < l.length) (by simp -implicitDefEqProofs <;> omega) (fun hlt => ?_) (fun hge => ?_))
  · refine WpC.skip ?_
    have hst := any_take f hlt
    obtain ⟨x, hx⟩ : ∃ x, l[k] = x := ⟨_, rfl⟩
    have hw : IntKind.i64.wrap ((k : Int) + 1) = k + 1 := wrapI (by omega) (by omega)
    have hfi := find_take f hlt hi
    rw [hi, hx] at hst
    rw [hx] at hfi
    refine WpC.seq ?_
    refine WpC.block ?_
    refine WpC.seq (WpC.ops tabOk (r := []) (by simp -implicitDefEqProofs [hlt, hx, hw] <;> rfl) rfl ?_)
    refine WpC.seq ?_
    refine WpC.region ?_
    refine WpO.run tabOk 5 (by simp -implicitDefEqProofs [hlt, hx, hw] <;> first | exact ⟨rfl, rfl⟩ | rfl) ?_
    refine WpO.data (by simp) rfl (by simp -implicitDefEqProofs [hlt, hx, hw] <;> rfl) (by simp -implicitDefEqProofs [hlt, hx, hw] <;> rfl) (by simp -implicitDefEqProofs [hlt, hx, hw] <;> rfl) call_15 (by simp) (neg_ok x) (by rfl) (by simp -implicitDefEqProofs [hlt, hx, hw] <;> rfl) ?_
    refine WpO.nil ?_
    refine WpC.condR (by simp -implicitDefEqProofs [hlt, hx, hw] <;> rfl) (by rfl) (fun c16 => ?_) (fun c16 => ?_)
    · have c16' := c16; first | simp only [dT, dF] at c16' | try simp at c16'
      refine WpC.seq (WpC.ops tabOk (r := []) (by simp -implicitDefEqProofs [hlt, hx, hw, c16] <;> rfl) rfl ?_)
      refine WpC.ret ?_
      try simp only [blockQ, seqQ]
      refine retD_i (by simp -implicitDefEqProofs [hlt, hx, hw, c16] <;> rfl) (by simp -implicitDefEqProofs [hlt, hx, hw, c16] <;> rfl) ?_
      have := hfi (by rw [← hff]; simpa using c16)
      simp [idxP, this]
    · have c16' := c16; first | simp only [dT, dF] at c16' | try simp at c16'
      refine WpC.skip ?_
      refine WpC.ops tabOk (r := []) (by simp -implicitDefEqProofs [hlt, hx, hw, c16] <;> rfl) rfl ?_
      exact ⟨hlt, (), by rw [hst, ← hff]; simpa using c16, Gh.cut' [8, 0, 1, 7] 0 (by simp -implicitDefEqProofs [hlt, hx, hw, c16, c16']) (by simp) rfl (by simp) (by simp) (by simp)⟩
  · refine WpC.exit ?_
    have hkn : k = l.length := by omega
    subst hkn
    rw [List.take_of_length_le (Nat.le_refl _)] at hi
    refine WpC.seq (WpC.ops tabOk (r := []) (by simp -implicitDefEqProofs <;> rfl) rfl ?_)
    refine WpC.ret ?_
    try simp only [blockQ, seqQ]
    refine retD_i (by simp -implicitDefEqProofs <;> rfl) (by simp -implicitDefEqProofs <;> rfl) ?_
    have : l.findIdx? f = none := by rw [List.findIdx?_eq_none_iff]; simpa using hi
    simp [idxP, this]
theorem idxP_any {α : Type} (f : α → Bool) (l : List α) : decide (0 ≤ idxP f l) = l.any f := by
  unfold idxP
  cases h : l.findIdx? f with
  | none => rw [List.findIdx?_eq_none_iff] at h; symm; simpa using h
  | some i =>
    rw [List.findIdx?_eq_some_iff_getElem] at h
    obtain ⟨h1, h2, _⟩ := h
    have : l.any f = true := by rw [List.any_eq_true]; exact ⟨_, List.getElem_mem h1, h2⟩
    simp [this]
theorem containsI_ok (l : List Int) (hl : l.length ≤ 1000000000) : Gives Try.prog 14 [.d (.list 1 (l.map dI)), .fn 15 []] (.d (.bool (l.any fun w => decide (w < 0)))) := by
  refine Gives.enter tabOk Try.func14 rfl (by show 2 ≤ 9; decide) ?_
  simp only [Try.f14]
  refine WpC.seq (WpC.ops tabOk (r := []) (by simp -implicitDefEqProofs <;> rfl) rfl ?_)
  refine WpC.seq ?_
  refine WpC.region ?_
  refine WpO.run tabOk 2 (by simp -implicitDefEqProofs <;> first | exact ⟨rfl, rfl⟩ | rfl) ?_
  refine WpO.data (by simp) rfl (by simp -implicitDefEqProofs <;> rfl) (by simp -implicitDefEqProofs <;> rfl) (by simp -implicitDefEqProofs <;> rfl) call_26 (by simp) (indexI_ok l hl) (by rfl) (by simp -implicitDefEqProofs <;> rfl) ?_
  refine WpO.run tabOk 2 (by simp -implicitDefEqProofs <;> first | exact ⟨rfl, rfl⟩ | rfl) ?_
  refine WpO.nil ?_
  refine WpC.ret ?_
  try simp only [blockQ, seqQ]
  refine retD_i (by simp -implicitDefEqProofs <;> rfl) (by simp -implicitDefEqProofs <;> rfl) ?_
  simp [← idxP_any]
/-- A function that hands back a row of its own. -/
def GivesRow (P : Program) (f : FuncId) (args : List FV) (e k : Nat) (xs : List D) : Prop := WpF P f args [] fun r S => r = .sl 0 xs.length ∧ S = [.arr e k xs]
theorem cloneI_ok (xs : List D) (hl : xs.length ≤ 1000000000) : GivesRow Try.prog 18 [.d (.list 1 xs)] 3 1 xs := by
  refine WpF.enter tabOk Try.func18 rfl (by show 1 ≤ 8; decide) ?_
  simp only [Try.f18]
  refine WpC.seq (WpC.ops tabOk (r := []) (by simp -implicitDefEqProofs <;> rfl) rfl ?_)
  refine WpC.seq ?_
  refine WpC.seq ?_
  refine WpC.region ?_
  refine WpO.run tabOk 1 (by simp <;> first | exact ⟨rfl, rfl⟩ | rfl) ?_
  refine WpO.nilEq (k := 1) (xs := xs) tabOk (by simp) rfl (by simp; rfl) rfl (by simp) fun b hb => ⟨_, by simp; rfl, WpO.nil ?_⟩
  refine WpC.condR (by simp -implicitDefEqProofs <;> rfl) (by rfl) (fun c4 => ?_) (fun c4 => ?_)
  · have c4' := c4; first | simp only [dT, dF] at c4' | try simp at c4'
    refine WpC.seq (WpC.ops tabOk (r := []) (by simp -implicitDefEqProofs [c4] <;> rfl) rfl ?_)
    have := hb c4
    subst this
    refine WpC.gh (Gh.nilArr 3 1 (t := 2) (by simp) (by simp)) ?_
    refine WpC.gh (Gh.pick [2] [0] (by simp; rfl) (env' := [(2, .sl 0 0)]) (by simp) (by simp) (by simp) (by simp; rfl) (S' := [.arr 3 1 []]) (by simp) (by simp)) (WpC.ret ?_)
    simp
  · have c4' := c4; first | simp only [dT, dF] at c4' | try simp at c4'
    have hsm : xs.length ≤ 8589934592 := by omega
    refine WpC.skip ?_
    refine WpC.seq (WpC.ops tabOk (r := []) (by simp -implicitDefEqProofs [c4, hsm] <;> rfl) rfl ?_)
    refine WpC.gh (Gh.pick [2] [1] (by simp; rfl) (env' := [(2, .sl 0 xs.length)]) (by simp) (by simp) (by simp) (by simp; rfl) (S' := [.arr 3 1 xs]) (by simp) (by simp)) (WpC.ret ?_)
    simp
end Go.Proofs.Ytfbpcjkhgiickaa.Pay
