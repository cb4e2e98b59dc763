/- The document's Right for the bank's files. No statement of the seed is proved here. -/
import Derived.Test.YtjlamhilnkadcaaDoorBkH
namespace Go.Proofs.YtjlamhilnkadcaaDoor.Pay
open Go Go.RowKit
set_option linter.unusedVariables false
set_option linter.unusedSimpArgs false

def bad1 (p : Pm) : Bool := ((!decide (p.kind = 69)) && !decide (p.kind = 67)) || decide (p.num < 1) || decide (2147483647 < p.num) || decide (p.amt < 1) || decide (1125899906842624 < p.amt)
theorem bad1_eq (p : Pm) : bad1 p = !okB p := by
  rw [Bool.eq_iff_iff]
  simp only [bad1, okB, Bool.or_eq_true, Bool.and_eq_true, Bool.not_eq_true', Bool.and_eq_false_iff, Bool.or_eq_false_iff, decide_eq_true_eq, decide_eq_false_iff_not]
  omega
def bad2 (q p : Pm) : Bool := decide (rankI p < rankI q) || (decide (rankI q = rankI p) && decide (p.num ≤ q.num))
theorem orI_two (a b : Int) : orI [a, b] = if a = 0 then (if b = 0 then 0 else b) else a := by
  by_cases h : a = 0 <;> by_cases h2 : b = 0 <;> simp [orI, h, h2]
theorem bad2_eq {q p : Pm} (hq : okB q = true) (hp : okB p = true) : bad2 q p = !decide (cmpP q p < 0) := by
  simp only [okB, Bool.and_eq_true, Bool.or_eq_true, decide_eq_true_eq] at hq hp
  obtain ⟨kq, nq, aq⟩ := q
  obtain ⟨kp, np, ap⟩ := p
  have h1 := hq.1.1.1.1
  have h2 := hp.1.1.1.1
  simp only at h1 h2
  rcases h1 with rfl | rfl <;> rcases h2 with rfl | rfl <;> rw [Bool.eq_iff_iff] <;> simp [bad2, cmpP, orI_two, cmpI, rankI] <;> (try (split <;> (try split) <;> omega))
set_option maxHeartbeats 4000000 in
theorem right22_ok (per : Int) (l : List Pm) (hl : l.length ≤ 1000000000) : Gives Tryd.prog 10 [.d (encF per l)] (.d (.bool (rightB per l))) := by
  refine Gives.enter tabOk Tryd.func10 rfl (by show 1 ≤ 87; decide) ?_
  simp only [Tryd.f10]
  refine qR (by simp -implicitDefEqProofs <;> rfl) ?_
  refine WpC.seq ?_
  refine WpC.seq ?_
  refine WpC.val 19 (.d (.bool ((decide (per < 22800)) || decide (35999 < per) || decide (4999 < (l.length : Int))))) ?_ ?_
  · refine WpC.region ?_
    refine WpO.run tabOk 4 (by simp -implicitDefEqProofs <;> first | exact ⟨rfl, rfl⟩ | rfl) ?_
    refine WpO.splitB 9 (by simp -implicitDefEqProofs <;> rfl) (by rfl) (fun g9 => ?_) (fun g9 => ?_)
    · try (exfalso; revert g9; simp; done)
      all_goals
        have g9' := g9; first | simp only [dT, dF] at g9' | try simp at g9'
        refine WpO.run tabOk 10 (by simp -implicitDefEqProofs [g9] <;> first | exact ⟨rfl, rfl⟩ | rfl) ?_
        refine WpO.nil ?_
        refine ⟨rfl, Gh.only 19 15 ?_ (by first | rfl | simp -implicitDefEqProofs [g9]) (by rfl)⟩
        simp -implicitDefEqProofs [g9, g9']
    · try (exfalso; revert g9; simp; done)
      all_goals
        have g9' := g9; first | simp only [dT, dF] at g9' | try simp at g9'
        refine WpO.run tabOk 5 (by simp -implicitDefEqProofs [g9] <;> first | exact ⟨rfl, rfl⟩ | rfl) ?_
        refine WpO.splitB 14 (by simp -implicitDefEqProofs [g9] <;> rfl) (by rfl) (fun g14 => ?_) (fun g14 => ?_)
        · try (exfalso; revert g14; simp; done)
          all_goals
            have g14' := g14; first | simp only [dT, dF] at g14' | try simp at g14'
            refine WpO.run tabOk 5 (by simp -implicitDefEqProofs [g9, g14] <;> first | exact ⟨rfl, rfl⟩ | rfl) ?_
            refine WpO.nil ?_
            refine ⟨rfl, Gh.only 19 16 ?_ (by first | rfl | simp -implicitDefEqProofs [g9, g14]) (by rfl)⟩
            simp -implicitDefEqProofs [g9, g14, g9', g14']
        · try (exfalso; revert g14; simp; done)
          all_goals
            have g14' := g14; first | simp only [dT, dF] at g14' | try simp at g14'
            refine WpO.run tabOk 5 (by simp -implicitDefEqProofs [g9, g14] <;> first | exact ⟨rfl, rfl⟩ | rfl) ?_
            refine WpO.nil ?_
            refine ⟨rfl, Gh.only 19 16 ?_ (by first | rfl | simp -implicitDefEqProofs [g9, g14]) (by rfl)⟩
            simp -implicitDefEqProofs [g9, g14, g9', g14']
  refine WpC.condR (by simp -implicitDefEqProofs <;> rfl) (by rfl) (fun c19 => ?_) (fun c19 => ?_)
  · have c19' := c19; first | simp only [dT, dF] at c19' | try simp at c19'
    refine qR (by simp -implicitDefEqProofs [c19] <;> rfl) ?_
    refine WpC.ret ?_
    try simp only [blockQ, seqQ]
    refine retD_i (by simp -implicitDefEqProofs [c19] <;> rfl) (by simp -implicitDefEqProofs [c19] <;> rfl) ?_
    have : rightB per l = false := by
        have c19 := c19
        simp only [Bool.or_eq_true, decide_eq_true_eq] at c19
        simp only [rightB, Bool.and_eq_false_iff, decide_eq_false_iff_not]
        omega
    simp [this]
  have c19' := c19; first | simp only [dT, dF] at c19' | try simp at c19'
  have c19b := c19
  simp only [Bool.or_eq_false_iff, decide_eq_false_iff_not] at c19b
  obtain ⟨⟨hp1, hp2⟩, hp3⟩ := c19b
  refine WpC.skip ?_
  refine WpC.seq ?_
  refine qR (by simp -implicitDefEqProofs [c19] <;> rfl) ?_
  refine WpC.block ?_
  refine WpC.loopK [1] [3] (l.length) (() : Unit) (fun k _ => [(3, .d (.int .i64 k))]) (fun k _ => [.cells 32 [.d (dI per), .d (encPm l)]]) (fun k _ => allB l k = true) (by simp -implicitDefEqProofs [c19] <;> rfl) (Gh.cut' [3, 1] 1 (by simp -implicitDefEqProofs [c19]) (by simp -implicitDefEqProofs [c19]) rfl (by simp) (by simp) (by simp)) (rfl) ?_
  rintro k ⟨⟩ hk hi
  simp only [List.cons_append, List.nil_append]
  refine WpC.seq ?_
  refine qR (by simp -implicitDefEqProofs [c19] <;> rfl) ?_
  refine WpC.condD (k < l.length) (by simp -implicitDefEqProofs [c19] <;> omega) (fun hlt => ?_) (fun hge => ?_)
  · refine WpC.skip ?_
    have hkl : k < l.length := by omega
    obtain ⟨p, hp⟩ : ∃ p, l[k] = p := ⟨_, rfl⟩
    have hpd : l.getD k default = p := by simp [List.getD, hkl, hp]
    have hw : IntKind.i64.wrap ((k : Int) + 1) = k + 1 := wrapI (by omega) (by omega)
    have hk1 : k - 1 < l.length := by omega
    obtain ⟨q, hq⟩ : ∃ q, l[k - 1] = q := ⟨_, rfl⟩
    have hqd : l.getD (k - 1) default = q := by simp [List.getD, hk1, hq]
    have hat : atB l k = (okB p && (decide (k = 0) || decide (cmpP q p < 0))) := by unfold atB; rw [hpd, hqd]
    have hst := allB_step l k
    rw [hi, Bool.true_and] at hst
    have hno : atB l k = false → rightB per l = false := fun h => by rw [rightB, allB_no hkl h]; rfl
    have H1 := And.intro hlt (And.intro hkl (And.intro hp (And.intro hw (And.intro hk1 hq))))
    refine WpC.seq ?_
    refine WpC.block ?_
    refine qR (by simp -implicitDefEqProofs [H1, c19] <;> rfl) ?_
    refine WpC.seq ?_
    refine WpC.seq ?_
    refine WpC.val 59 (.d (.bool (bad1 p))) ?_ ?_
    · refine WpC.region ?_
      refine WpO.run tabOk 4 (by simp -implicitDefEqProofs [H1, c19] <;> first | exact ⟨rfl, rfl⟩ | rfl) ?_
      refine WpO.splitB 35 (by simp -implicitDefEqProofs [H1, c19] <;> rfl) (by rfl) (fun g35 => ?_) (fun g35 => ?_)
      · try (exfalso; revert g35; simp; done)
        all_goals
          have g35' := g35; first | simp only [dT, dF] at g35' | try simp at g35'
          refine WpO.run tabOk 5 (by simp -implicitDefEqProofs [H1, c19, g35] <;> first | exact ⟨rfl, rfl⟩ | rfl) ?_
          refine WpO.splitB 40 (by simp -implicitDefEqProofs [H1, c19, g35] <;> rfl) (by rfl) (fun g40 => ?_) (fun g40 => ?_)
          · try (exfalso; revert g40; simp; done)
            all_goals
              have g40' := g40; first | simp only [dT, dF] at g40' | try simp at g40'
              refine WpO.run tabOk 19 (by simp -implicitDefEqProofs [H1, c19, g35, g40] <;> first | exact ⟨rfl, rfl⟩ | rfl) ?_
              refine WpO.nil ?_
              refine ⟨rfl, Gh.only 59 30 ?_ (by first | rfl | simp -implicitDefEqProofs [H1, c19, g35, g40]) (by rfl)⟩
              simp -implicitDefEqProofs [H1, c19, g35, g40, g35', g40', bad1]
          · try (exfalso; revert g40; simp; done)
            all_goals
              have g40' := g40; first | simp only [dT, dF] at g40' | try simp at g40'
              refine WpO.run tabOk 5 (by simp -implicitDefEqProofs [H1, c19, g35, g40] <;> first | exact ⟨rfl, rfl⟩ | rfl) ?_
              refine WpO.splitB 45 (by simp -implicitDefEqProofs [H1, c19, g35, g40] <;> rfl) (by rfl) (fun g45 => ?_) (fun g45 => ?_)
              · try (exfalso; revert g45; simp; done)
                all_goals
                  have g45' := g45; first | simp only [dT, dF] at g45' | try simp at g45'
                  refine WpO.run tabOk 14 (by simp -implicitDefEqProofs [H1, c19, g35, g40, g45] <;> first | exact ⟨rfl, rfl⟩ | rfl) ?_
                  refine WpO.nil ?_
                  refine ⟨rfl, Gh.only 59 31 ?_ (by first | rfl | simp -implicitDefEqProofs [H1, c19, g35, g40, g45]) (by rfl)⟩
                  simp -implicitDefEqProofs [H1, c19, g35, g40, g45, g35', g40', g45', bad1]
              · try (exfalso; revert g45; simp; done)
                all_goals
                  have g45' := g45; first | simp only [dT, dF] at g45' | try simp at g45'
                  refine WpO.run tabOk 5 (by simp -implicitDefEqProofs [H1, c19, g35, g40, g45] <;> first | exact ⟨rfl, rfl⟩ | rfl) ?_
                  refine WpO.splitB 50 (by simp -implicitDefEqProofs [H1, c19, g35, g40, g45] <;> rfl) (by rfl) (fun g50 => ?_) (fun g50 => ?_)
                  · try (exfalso; revert g50; simp; done)
                    all_goals
                      have g50' := g50; first | simp only [dT, dF] at g50' | try simp at g50'
                      refine WpO.run tabOk 9 (by simp -implicitDefEqProofs [H1, c19, g35, g40, g45, g50] <;> first | exact ⟨rfl, rfl⟩ | rfl) ?_
                      refine WpO.nil ?_
                      refine ⟨rfl, Gh.only 59 32 ?_ (by first | rfl | simp -implicitDefEqProofs [H1, c19, g35, g40, g45, g50]) (by rfl)⟩
                      simp -implicitDefEqProofs [H1, c19, g35, g40, g45, g50, g35', g40', g45', g50', bad1]
                  · try (exfalso; revert g50; simp; done)
                    all_goals
                      have g50' := g50; first | simp only [dT, dF] at g50' | try simp at g50'
                      refine WpO.run tabOk 5 (by simp -implicitDefEqProofs [H1, c19, g35, g40, g45, g50] <;> first | exact ⟨rfl, rfl⟩ | rfl) ?_
                      refine WpO.splitB 55 (by simp -implicitDefEqProofs [H1, c19, g35, g40, g45, g50] <;> rfl) (by rfl) (fun g55 => ?_) (fun g55 => ?_)
                      · try (exfalso; revert g55; simp; done)
                        all_goals
                          have g55' := g55; first | simp only [dT, dF] at g55' | try simp at g55'
                          refine WpO.run tabOk 4 (by simp -implicitDefEqProofs [H1, c19, g35, g40, g45, g50, g55] <;> first | exact ⟨rfl, rfl⟩ | rfl) ?_
                          refine WpO.nil ?_
                          refine ⟨rfl, Gh.only 59 33 ?_ (by first | rfl | simp -implicitDefEqProofs [H1, c19, g35, g40, g45, g50, g55]) (by rfl)⟩
                          simp -implicitDefEqProofs [H1, c19, g35, g40, g45, g50, g55, g35', g40', g45', g50', g55', bad1]
                      · try (exfalso; revert g55; simp; done)
                        all_goals
                          have g55' := g55; first | simp only [dT, dF] at g55' | try simp at g55'
                          refine WpO.run tabOk 4 (by simp -implicitDefEqProofs [H1, c19, g35, g40, g45, g50, g55] <;> first | exact ⟨rfl, rfl⟩ | rfl) ?_
                          refine WpO.nil ?_
                          refine ⟨rfl, Gh.only 59 33 ?_ (by first | rfl | simp -implicitDefEqProofs [H1, c19, g35, g40, g45, g50, g55]) (by rfl)⟩
                          simp -implicitDefEqProofs [H1, c19, g35, g40, g45, g50, g55, g35', g40', g45', g50', g55', bad1]
      · try (exfalso; revert g35; simp; done)
        all_goals
          have g35' := g35; first | simp only [dT, dF] at g35' | try simp at g35'
          refine WpO.run tabOk 10 (by simp -implicitDefEqProofs [H1, c19, g35] <;> first | exact ⟨rfl, rfl⟩ | rfl) ?_
          refine WpO.splitB 45 (by simp -implicitDefEqProofs [H1, c19, g35] <;> rfl) (by rfl) (fun g45 => ?_) (fun g45 => ?_)
          · try (exfalso; revert g45; simp; done)
            all_goals
              have g45' := g45; first | simp only [dT, dF] at g45' | try simp at g45'
              refine WpO.run tabOk 14 (by simp -implicitDefEqProofs [H1, c19, g35, g45] <;> first | exact ⟨rfl, rfl⟩ | rfl) ?_
              refine WpO.nil ?_
              refine ⟨rfl, Gh.only 59 30 ?_ (by first | rfl | simp -implicitDefEqProofs [H1, c19, g35, g45]) (by rfl)⟩
              simp -implicitDefEqProofs [H1, c19, g35, g45, g35', g45', bad1]
          · try (exfalso; revert g45; simp; done)
            all_goals
              have g45' := g45; first | simp only [dT, dF] at g45' | try simp at g45'
              refine WpO.run tabOk 5 (by simp -implicitDefEqProofs [H1, c19, g35, g45] <;> first | exact ⟨rfl, rfl⟩ | rfl) ?_
              refine WpO.splitB 50 (by simp -implicitDefEqProofs [H1, c19, g35, g45] <;> rfl) (by rfl) (fun g50 => ?_) (fun g50 => ?_)
              · try (exfalso; revert g50; simp; done)
                all_goals
                  have g50' := g50; first | simp only [dT, dF] at g50' | try simp at g50'
                  refine WpO.run tabOk 9 (by simp -implicitDefEqProofs [H1, c19, g35, g45, g50] <;> first | exact ⟨rfl, rfl⟩ | rfl) ?_
                  refine WpO.nil ?_
                  refine ⟨rfl, Gh.only 59 31 ?_ (by first | rfl | simp -implicitDefEqProofs [H1, c19, g35, g45, g50]) (by rfl)⟩
                  simp -implicitDefEqProofs [H1, c19, g35, g45, g50, g35', g45', g50', bad1]
              · try (exfalso; revert g50; simp; done)
                all_goals
                  have g50' := g50; first | simp only [dT, dF] at g50' | try simp at g50'
                  refine WpO.run tabOk 5 (by simp -implicitDefEqProofs [H1, c19, g35, g45, g50] <;> first | exact ⟨rfl, rfl⟩ | rfl) ?_
                  refine WpO.splitB 55 (by simp -implicitDefEqProofs [H1, c19, g35, g45, g50] <;> rfl) (by rfl) (fun g55 => ?_) (fun g55 => ?_)
                  · try (exfalso; revert g55; simp; done)
                    all_goals
                      have g55' := g55; first | simp only [dT, dF] at g55' | try simp at g55'
                      refine WpO.run tabOk 4 (by simp -implicitDefEqProofs [H1, c19, g35, g45, g50, g55] <;> first | exact ⟨rfl, rfl⟩ | rfl) ?_
                      refine WpO.nil ?_
                      refine ⟨rfl, Gh.only 59 32 ?_ (by first | rfl | simp -implicitDefEqProofs [H1, c19, g35, g45, g50, g55]) (by rfl)⟩
                      simp -implicitDefEqProofs [H1, c19, g35, g45, g50, g55, g35', g45', g50', g55', bad1]
                  · try (exfalso; revert g55; simp; done)
                    all_goals
                      have g55' := g55; first | simp only [dT, dF] at g55' | try simp at g55'
                      refine WpO.run tabOk 4 (by simp -implicitDefEqProofs [H1, c19, g35, g45, g50, g55] <;> first | exact ⟨rfl, rfl⟩ | rfl) ?_
                      refine WpO.nil ?_
                      refine ⟨rfl, Gh.only 59 32 ?_ (by first | rfl | simp -implicitDefEqProofs [H1, c19, g35, g45, g50, g55]) (by rfl)⟩
                      simp -implicitDefEqProofs [H1, c19, g35, g45, g50, g55, g35', g45', g50', g55', bad1]
    refine WpC.condR (by simp -implicitDefEqProofs [H1, c19] <;> rfl) (by rfl) (fun c59 => ?_) (fun c59 => ?_)
    · have c59' := c59; first | simp only [dT, dF] at c59' | try simp at c59'
      rw [bad1_eq, Bool.not_eq_true'] at c59
      have hno2 := hno (by rw [hat, c59]; rfl)
      refine qR (by simp -implicitDefEqProofs [H1, c19, c59] <;> rfl) ?_
      refine WpC.ret ?_
      try simp only [blockQ, seqQ]
      refine retD_i (by simp -implicitDefEqProofs [H1, c19, c59] <;> rfl) (by simp -implicitDefEqProofs [H1, c19, c59] <;> rfl) ?_
      simp [hno2]
    have c59' := c59; first | simp only [dT, dF] at c59' | try simp at c59'
    rw [bad1_eq, Bool.not_eq_false'] at c59
    refine WpC.skip ?_
    refine WpC.seq ?_
    refine qR (by simp -implicitDefEqProofs [H1, c19, c59] <;> rfl) ?_
    refine WpC.condD ((k : Int) = 0) (by simp -implicitDefEqProofs [H1, c19, c59]) (fun d61 => ?_) (fun d61 => ?_)
    · have hk0 : k = 0 := by omega
      have hstp : allB l (k + 1) = true := by rw [hst, hat, c59, hk0]; rfl
      have hw10 : IntKind.i64.wrap 1 = 1 := wrapI (by omega) (by omega)
      refine WpC.exit ?_
      refine qr (by simp -implicitDefEqProofs [H1, c19, c59, d61, hw10] <;> rfl) ?_
      exact ⟨hlt, (), hstp, Gh.cut' [3, 1] 1 (by simp -implicitDefEqProofs [H1, c19, c59, d61, hw10, c19', c59']) (by simp -implicitDefEqProofs [H1, c19, c59, d61, hw10, c19', c59']) rfl (by simp) (by simp) (by simp)⟩
    have hk0 : k ≠ 0 := by omega
    have hw2 : IntKind.i64.wrap ((k : Int) - 1) = ((k - 1 : Nat) : Int) := by rw [wrapI (by omega) (by omega)]; omega
    have hokq : okB q = true := by
      have h := allB_at hi (show k - 1 < k by omega)
      rw [atB, Bool.and_eq_true, hqd] at h
      exact h.1
    refine WpC.skip ?_
    refine qR (by simp -implicitDefEqProofs [H1, c19, c59, d61, hw2] <;> rfl) ?_
    refine WpC.seq ?_
    refine WpC.val 86 (.d (.bool (bad2 q p))) ?_ ?_
    · refine WpC.drawn tabOk (by kernel_rfl) 0 (by simp) ?_
      refine DrO.run (fz := []) 1 (by simp -implicitDefEqProofs [H1, c19, c59, d61, hw2] <;> first | exact ⟨rfl, rfl, rfl, rfl⟩ | rfl) ?_
      refine DrO.data (by simp) rfl (by simp -implicitDefEqProofs [H1, c19, c59, d61, hw2] <;> rfl) (by simp -implicitDefEqProofs [H1, c19, c59, d61, hw2] <;> rfl) (by simp -implicitDefEqProofs [H1, c19, c59, d61, hw2] <;> rfl) call_19 (rank_ok q) (by rfl) (by simp -implicitDefEqProofs [H1, c19, c59, d61, hw2] <;> rfl) ?_
      refine DrO.run (fz := []) 1 (by simp -implicitDefEqProofs [H1, c19, c59, d61, hw2] <;> first | exact ⟨rfl, rfl, rfl, rfl⟩ | rfl) ?_
      refine DrO.data (by simp) rfl (by simp -implicitDefEqProofs [H1, c19, c59, d61, hw2] <;> rfl) (by simp -implicitDefEqProofs [H1, c19, c59, d61, hw2] <;> rfl) (by simp -implicitDefEqProofs [H1, c19, c59, d61, hw2] <;> rfl) call_19 (rank_ok p) (by rfl) (by simp -implicitDefEqProofs [H1, c19, c59, d61, hw2] <;> rfl) ?_
      refine DrO.run (fz := []) 2 (by simp -implicitDefEqProofs [H1, c19, c59, d61, hw2] <;> first | exact ⟨rfl, rfl, rfl, rfl⟩ | rfl) ?_
      refine DrO.splitB 73 (by simp -implicitDefEqProofs [H1, c19, c59, d61, hw2] <;> rfl) (by rfl) (fun g73 => ?_) (fun g73 => ?_)
      · try (exfalso; revert g73; simp; done)
        all_goals
          have g73' := g73; first | simp only [dT, dF] at g73' | try simp at g73'
          refine DrO.run (fz := []) 3 (by simp -implicitDefEqProofs [H1, c19, c59, d61, hw2, g73] <;> first | exact ⟨rfl, rfl, rfl, rfl⟩ | rfl) ?_
          refine DrO.run (fz := []) 3 (by simp -implicitDefEqProofs [H1, c19, c59, d61, hw2, g73] <;> first | exact ⟨rfl, rfl, rfl, rfl⟩ | rfl) ?_
          refine DrO.run (fz := []) 3 (by simp -implicitDefEqProofs [H1, c19, c59, d61, hw2, g73] <;> first | exact ⟨rfl, rfl, rfl, rfl⟩ | rfl) ?_
          refine DrO.run (fz := []) 3 (by simp -implicitDefEqProofs [H1, c19, c59, d61, hw2, g73] <;> first | exact ⟨rfl, rfl, rfl, rfl⟩ | rfl) ?_
          refine DrO.run (fz := []) 1 (by simp -implicitDefEqProofs [H1, c19, c59, d61, hw2, g73] <;> first | exact ⟨rfl, rfl, rfl, rfl⟩ | rfl) ?_
          refine DrO.nil ⟨by kernel_rfl, ?_⟩
          refine ⟨rfl, Gh.only 86 19 ?_ (by first | rfl | simp -implicitDefEqProofs [H1, c19, c59, d61, hw2, g73]) (by rfl)⟩
          simp -implicitDefEqProofs [H1, c19, c59, d61, hw2, g73, g73', bad2]
      · try (exfalso; revert g73; simp; done)
        all_goals
          have g73' := g73; first | simp only [dT, dF] at g73' | try simp at g73'
          refine DrO.run (fz := []) 1 (by simp -implicitDefEqProofs [H1, c19, c59, d61, hw2, g73] <;> first | exact ⟨rfl, rfl, rfl, rfl⟩ | rfl) ?_
          refine DrO.data (by simp) rfl (by simp -implicitDefEqProofs [H1, c19, c59, d61, hw2, g73] <;> rfl) (by simp -implicitDefEqProofs [H1, c19, c59, d61, hw2, g73] <;> rfl) (by simp -implicitDefEqProofs [H1, c19, c59, d61, hw2, g73] <;> rfl) call_19 (rank_ok q) (by rfl) (by simp -implicitDefEqProofs [H1, c19, c59, d61, hw2, g73] <;> rfl) ?_
          refine DrO.run (fz := []) 1 (by simp -implicitDefEqProofs [H1, c19, c59, d61, hw2, g73] <;> first | exact ⟨rfl, rfl, rfl, rfl⟩ | rfl) ?_
          refine DrO.data (by simp) rfl (by simp -implicitDefEqProofs [H1, c19, c59, d61, hw2, g73] <;> rfl) (by simp -implicitDefEqProofs [H1, c19, c59, d61, hw2, g73] <;> rfl) (by simp -implicitDefEqProofs [H1, c19, c59, d61, hw2, g73] <;> rfl) call_19 (rank_ok p) (by rfl) (by simp -implicitDefEqProofs [H1, c19, c59, d61, hw2, g73] <;> rfl) ?_
          refine DrO.run (fz := []) 2 (by simp -implicitDefEqProofs [H1, c19, c59, d61, hw2, g73] <;> first | exact ⟨rfl, rfl, rfl, rfl⟩ | rfl) ?_
          refine DrO.splitB 79 (by simp -implicitDefEqProofs [H1, c19, c59, d61, hw2, g73] <;> rfl) (by rfl) (fun g79 => ?_) (fun g79 => ?_)
          · try (exfalso; revert g79; simp; done)
            all_goals
              have g79' := g79; first | simp only [dT, dF] at g79' | try simp at g79'
              refine DrO.run (fz := []) 3 (by simp -implicitDefEqProofs [H1, c19, c59, d61, hw2, g73, g79] <;> first | exact ⟨rfl, rfl, rfl, rfl⟩ | rfl) ?_
              refine DrO.run (fz := []) 3 (by simp -implicitDefEqProofs [H1, c19, c59, d61, hw2, g73, g79] <;> first | exact ⟨rfl, rfl, rfl, rfl⟩ | rfl) ?_
              refine DrO.run (fz := []) 1 (by simp -implicitDefEqProofs [H1, c19, c59, d61, hw2, g73, g79] <;> first | exact ⟨rfl, rfl, rfl, rfl⟩ | rfl) ?_
              refine DrO.nil ⟨by kernel_rfl, ?_⟩
              refine ⟨rfl, Gh.only 86 19 ?_ (by first | rfl | simp -implicitDefEqProofs [H1, c19, c59, d61, hw2, g73, g79]) (by rfl)⟩
              simp -implicitDefEqProofs [H1, c19, c59, d61, hw2, g73, g79, g73', g79', bad2]
          · try (exfalso; revert g79; simp; done)
            all_goals
              have g79' := g79; first | simp only [dT, dF] at g79' | try simp at g79'
              refine DrO.run (fz := []) 3 (by simp -implicitDefEqProofs [H1, c19, c59, d61, hw2, g73, g79] <;> first | exact ⟨rfl, rfl, rfl, rfl⟩ | rfl) ?_
              refine DrO.run (fz := []) 3 (by simp -implicitDefEqProofs [H1, c19, c59, d61, hw2, g73, g79] <;> first | exact ⟨rfl, rfl, rfl, rfl⟩ | rfl) ?_
              refine DrO.run (fz := []) 1 (by simp -implicitDefEqProofs [H1, c19, c59, d61, hw2, g73, g79] <;> first | exact ⟨rfl, rfl, rfl, rfl⟩ | rfl) ?_
              refine DrO.nil ⟨by kernel_rfl, ?_⟩
              refine ⟨rfl, Gh.only 86 19 ?_ (by first | rfl | simp -implicitDefEqProofs [H1, c19, c59, d61, hw2, g73, g79]) (by rfl)⟩
              simp -implicitDefEqProofs [H1, c19, c59, d61, hw2, g73, g79, g73', g79', bad2]
    refine WpC.condR (by simp -implicitDefEqProofs [H1, c19, c59, d61, hw2] <;> rfl) (by rfl) (fun c86 => ?_) (fun c86 => ?_)
    · have c86' := c86; first | simp only [dT, dF] at c86' | try simp at c86'
      rw [bad2_eq hokq c59, Bool.not_eq_true'] at c86
      have hno2 := hno (by rw [hat, c86, c59]; simp [hk0])
      refine qR (by simp -implicitDefEqProofs [H1, c19, c59, d61, hw2, c86] <;> rfl) ?_
      refine WpC.ret ?_
      try simp only [blockQ, seqQ]
      refine retD_i (by simp -implicitDefEqProofs [H1, c19, c59, d61, hw2, c86] <;> rfl) (by simp -implicitDefEqProofs [H1, c19, c59, d61, hw2, c86] <;> rfl) ?_
      simp [hno2]
    have c86' := c86; first | simp only [dT, dF] at c86' | try simp at c86'
    rw [bad2_eq hokq c59, Bool.not_eq_false'] at c86
    have hstp : allB l (k + 1) = true := by rw [hst, hat, c59, c86]; simp
    refine WpC.skip ?_
    refine qr (by simp -implicitDefEqProofs [H1, c19, c59, d61, hw2, c86] <;> rfl) ?_
    exact ⟨hlt, (), hstp, Gh.cut' [3, 1] 1 (by simp -implicitDefEqProofs [H1, c19, c59, d61, hw2, c86, c19', c59', c86']) (by simp -implicitDefEqProofs [H1, c19, c59, d61, hw2, c86, c19', c59', c86']) rfl (by simp) (by simp) (by simp)⟩
  refine WpC.exit ?_
  have hkn : k = l.length := by omega
  subst hkn
  have hfin : rightB per l = true := by
      simp only [rightB, Bool.and_eq_true, decide_eq_true_eq]
      exact ⟨⟨⟨hi, by omega⟩, by omega⟩, by omega⟩
  refine qR (by simp -implicitDefEqProofs [c19] <;> rfl) ?_
  refine WpC.ret ?_
  try simp only [blockQ, seqQ]
  refine retD_i (by simp -implicitDefEqProofs [c19] <;> rfl) (by simp -implicitDefEqProofs [c19] <;> rfl) ?_
  simp [hfin]
end Go.Proofs.YtjlamhilnkadcaaDoor.Pay
