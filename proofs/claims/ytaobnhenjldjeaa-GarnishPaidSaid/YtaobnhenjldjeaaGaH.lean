/- Law GarnishPaid. No statement of the seed is proved here. -/
import Derived.Test.YtaobnhenjldjeaaGaG
namespace Go.Proofs.Ytaobnhenjldjeaa.Pay
open Go Go.RowKit
set_option linter.unusedVariables false
set_option linter.unusedSimpArgs false
set_option linter.unusedSectionVars false

set_option maxHeartbeats 40000000 in
theorem garnishPaid_ok (l : List Ord) (ps : List Int) (ho : ∀ o ∈ l, o.ok) : Gives Try.prog 4 [.d (encOs l), .d (.list 1 (ps.map dI))] (.d (.bool true)) := by
  refine Gives.enter tabOk Try.func4 rfl (by show 2 ≤ 101; decide) ?_
  simp only [Try.f4]
  refine WpC.seq (WpC.ops tabOk (r := []) (by simp -implicitDefEqProofs <;> rfl) rfl ?_)
  refine WpC.seq ?_
  refine WpC.seq ?_
  refine WpC.val 18 (.d (.bool (decide ((40 : Int) < l.length ∨ (40 : Int) < ps.length)))) ?_ ?_
  · refine WpC.region ?_
    refine WpO.run tabOk 4 (by simp -implicitDefEqProofs <;> first | exact ⟨rfl, rfl⟩ | rfl) ?_
    refine WpO.splitB 14 (by simp -implicitDefEqProofs <;> rfl) (by rfl) (fun g14 => ?_) (fun g14 => ?_)
    · have g14' := g14; first | simp only [dT, dF] at g14' | try simp at g14'
      refine WpO.run tabOk 4 (by simp -implicitDefEqProofs [g14] <;> first | exact ⟨rfl, rfl⟩ | rfl) ?_
      refine WpO.nil ?_
      refine ⟨rfl, Gh.only 18 9 ?_ (by first | rfl | simp -implicitDefEqProofs [g14]) (by rfl)⟩
      simp -implicitDefEqProofs [g14, g14']
    · have g14' := g14; first | simp only [dT, dF] at g14' | try simp at g14'
      refine WpO.run tabOk 4 (by simp -implicitDefEqProofs [g14] <;> first | exact ⟨rfl, rfl⟩ | rfl) ?_
      refine WpO.nil ?_
      refine ⟨rfl, Gh.only 18 9 ?_ (by first | rfl | simp -implicitDefEqProofs [g14]) (by rfl)⟩
      simp -implicitDefEqProofs [g14, g14']
  refine WpC.condD ((40 : Int) < l.length ∨ (40 : Int) < ps.length) (by simp -implicitDefEqProofs) (fun d18 => ?_) (fun d18 => ?_)
  · refine WpC.seq ?_
    refine WpC.region ?_
    refine WpO.data (by simp) rfl (by simp -implicitDefEqProofs [d18] <;> rfl) (by simp -implicitDefEqProofs [d18] <;> rfl) (by simp -implicitDefEqProofs [d18] <;> rfl) call_10 (by simp) (awake15_ok) (by rfl) (by simp -implicitDefEqProofs [d18] <;> rfl) ?_
    refine WpO.run tabOk 1 (by simp -implicitDefEqProofs [d18] <;> first | exact ⟨rfl, rfl⟩ | rfl) ?_
    refine WpO.nil ?_
    refine WpC.ret ?_
    try simp only [blockQ, seqQ]
    refine retD_i (by simp -implicitDefEqProofs [d18] <;> rfl) (by simp -implicitDefEqProofs [d18] <;> rfl) ?_
    simp -implicitDefEqProofs [d18]
  · have hl40 : l.length ≤ 40 := by omega
    have hp40 : ps.length ≤ 40 := by omega
    have hpd := paid_ok l ps (by omega) (by omega) fun o h => (ho o h).2.2.2
    obtain ⟨ok, hok⟩ : ∃ b, paidB l ps = b := ⟨_, rfl⟩
    obtain ⟨K, hK⟩ : ∃ K, (if ok = true then payL l ps l.length else []) = K := ⟨_, rfl⟩
    rw [hok, hK] at hpd
    have hcast : ((l.length : Int) = ps.length) = (l.length = ps.length) := propext (by omega)
    refine WpC.skip ?_
    refine WpC.seq ?_
    refine WpC.region ?_
    refine WpO.run tabOk 2 (by simp -implicitDefEqProofs [d18, hcast] <;> first | exact ⟨rfl, rfl⟩ | rfl) ?_
    refine WpO.data (by simp) rfl (by simp -implicitDefEqProofs [d18, hcast] <;> rfl) (by simp -implicitDefEqProofs [d18, hcast] <;> rfl) (by simp -implicitDefEqProofs [d18, hcast] <;> rfl) call_15 (by simp) (hpd) (by rfl) (by simp -implicitDefEqProofs [d18, hcast] <;> rfl) ?_
    refine WpO.run tabOk 5 (by simp -implicitDefEqProofs [d18, hcast] <;> first | exact ⟨rfl, rfl⟩ | rfl) ?_
    refine WpO.nil ?_
    refine WpC.seq (WpC.ops tabOk (r := []) (by simp -implicitDefEqProofs [d18, hcast] <;> rfl) rfl ?_)
    refine WpC.seq ?_
    refine WpC.seq (WpC.ops tabOk (r := []) (by simp -implicitDefEqProofs [d18, hcast] <;> rfl) rfl ?_)
    refine WpC.block ?_
    refine WpC.loopM [0, 1, 5, 6] [7, 8] (fun x => l.length - x.1) ((0, decide (l.length = ps.length)) : Nat × Bool) (fun x => [(7, .d (.bool x.2)), (8, .d (dI (x.1 : Nat)))]) (fun x => []) (fun x => x.1 ≤ l.length ∧ x.2 = (decide (l.length = ps.length) && payB l ps x.1)) (by simp -implicitDefEqProofs [d18, hcast] <;> rfl) (Gh.cut' [7, 8, 0, 1, 5, 6] 0 (by simp -implicitDefEqProofs [d18, hcast]) (by simp -implicitDefEqProofs [d18, hcast]) rfl (by simp) (by simp) (by simp)) (⟨by simp, by simp [payB]⟩) ?_
    rintro x hi
    simp only [List.cons_append, List.nil_append]
    obtain ⟨i, r⟩ := x
    obtain ⟨h1, h2⟩ := hi
    simp only at h1 h2 ⊢
    refine WpC.seq ?_
    refine WpC.seq ?_
    refine WpC.val 37 (.d (.bool (decide (i < l.length ∧ r = true)))) ?_ ?_
    · refine WpC.region ?_
      refine WpO.run tabOk 5 (by simp -implicitDefEqProofs [d18, hcast] <;> first | exact ⟨rfl, rfl⟩ | rfl) ?_
      refine WpO.splitB 35 (by simp -implicitDefEqProofs [d18, hcast] <;> rfl) (by rfl) (fun g35 => ?_) (fun g35 => ?_)
      · have g35' := g35; first | simp only [dT, dF] at g35' | try simp at g35'
        refine WpO.run tabOk 2 (by simp -implicitDefEqProofs [d18, hcast, g35] <;> first | exact ⟨rfl, rfl⟩ | rfl) ?_
        refine WpO.nil ?_
        refine ⟨rfl, Gh.only 37 8 ?_ (by first | rfl | simp -implicitDefEqProofs [d18, hcast, g35]) (by rfl)⟩
        simp -implicitDefEqProofs [d18, hcast, g35, g35']
      · have g35' := g35; first | simp only [dT, dF] at g35' | try simp at g35'
        refine WpO.run tabOk 2 (by simp -implicitDefEqProofs [d18, hcast, g35] <;> first | exact ⟨rfl, rfl⟩ | rfl) ?_
        refine WpO.nil ?_
        refine ⟨rfl, Gh.only 37 8 ?_ (by first | rfl | simp -implicitDefEqProofs [d18, hcast, g35]) (by rfl)⟩
        simp -implicitDefEqProofs [d18, hcast, g35, g35']
    refine WpC.condD (i < l.length ∧ r = true) (by simp -implicitDefEqProofs [d18, hcast]) (fun d37 => ?_) (fun d37 => ?_)
    · have hil := d37.1
      have hr := d37.2
      have h3 : decide (l.length = ps.length) = true ∧ payB l ps i = true := by rw [hr] at h2; simpa using h2.symm
      have hle : l.length = ps.length := of_decide_eq_true h3.1
      have hip : i < ps.length := by omega
      obtain ⟨o, hoi⟩ : ∃ o, l[i] = o := ⟨_, rfl⟩
      obtain ⟨p, hpi⟩ : ∃ p, ps[i] = p := ⟨_, rfl⟩
      have hst : (decide (l.length = ps.length) && payB l ps (i + 1)) = decide (0 ≤ p ∧ p ≤ o.bal) := by
        rw [payB_step, h3.1, h3.2, ordAt_at hil, intAt_at hip, hoi, hpi]; simp
      have hiw : IntKind.i64.wrap ((i : Int) + 1) = (i : Int) + 1 := wrapI (by omega) (by omega)
      refine WpC.skip ?_
      refine WpC.seq ?_
      refine WpC.block ?_
      refine WpC.val 7 (.d (.bool (decide (0 ≤ p ∧ p ≤ o.bal)))) ?_ ?_
      · refine WpC.drawn tabOk (by kernel_rfl) 0 (by simp) ?_
        refine DrO.run (fz := []) 3 (by simp -implicitDefEqProofs [d18, hcast, d37, hil, hip, hoi, hpi, hiw] <;> first | exact ⟨rfl, rfl, rfl, rfl⟩ | rfl) ?_
        refine DrO.run (fz := []) 3 (by simp -implicitDefEqProofs [d18, hcast, d37, hil, hip, hoi, hpi, hiw] <;> first | exact ⟨rfl, rfl, rfl, rfl⟩ | rfl) ?_
        refine DrO.splitB 45 (by simp -implicitDefEqProofs [d18, hcast, d37, hil, hip, hoi, hpi, hiw] <;> rfl) (by rfl) (fun g45 => ?_) (fun g45 => ?_)
        · have g45' := g45; first | simp only [dT, dF] at g45' | try simp at g45'
          refine DrO.run (fz := []) 3 (by simp -implicitDefEqProofs [d18, hcast, d37, hil, hip, hoi, hpi, hiw, g45] <;> first | exact ⟨rfl, rfl, rfl, rfl⟩ | rfl) ?_
          refine DrO.run (fz := []) 3 (by simp -implicitDefEqProofs [d18, hcast, d37, hil, hip, hoi, hpi, hiw, g45] <;> first | exact ⟨rfl, rfl, rfl, rfl⟩ | rfl) ?_
          refine DrO.run (fz := []) 3 (by simp -implicitDefEqProofs [d18, hcast, d37, hil, hip, hoi, hpi, hiw, g45] <;> first | exact ⟨rfl, rfl, rfl, rfl⟩ | rfl) ?_
          refine DrO.run (fz := []) 3 (by simp -implicitDefEqProofs [d18, hcast, d37, hil, hip, hoi, hpi, hiw, g45] <;> first | exact ⟨rfl, rfl, rfl, rfl⟩ | rfl) ?_
          refine DrO.nil ⟨by kernel_rfl, ?_⟩
          refine ⟨rfl, Gh.only 7 18 ?_ (by first | rfl | simp -implicitDefEqProofs [d18, hcast, d37, hil, hip, hoi, hpi, hiw, g45]) (by rfl)⟩
          simp -implicitDefEqProofs [d18, hcast, d37, hil, hip, hoi, hpi, hiw, g45, g45']
        · have g45' := g45; first | simp only [dT, dF] at g45' | try simp at g45'
          refine DrO.run (fz := []) 3 (by simp -implicitDefEqProofs [d18, hcast, d37, hil, hip, hoi, hpi, hiw, g45] <;> first | exact ⟨rfl, rfl, rfl, rfl⟩ | rfl) ?_
          refine DrO.run (fz := []) 3 (by simp -implicitDefEqProofs [d18, hcast, d37, hil, hip, hoi, hpi, hiw, g45] <;> first | exact ⟨rfl, rfl, rfl, rfl⟩ | rfl) ?_
          refine DrO.run (fz := []) 3 (by simp -implicitDefEqProofs [d18, hcast, d37, hil, hip, hoi, hpi, hiw, g45] <;> first | exact ⟨rfl, rfl, rfl, rfl⟩ | rfl) ?_
          refine DrO.run (fz := []) 3 (by simp -implicitDefEqProofs [d18, hcast, d37, hil, hip, hoi, hpi, hiw, g45] <;> first | exact ⟨rfl, rfl, rfl, rfl⟩ | rfl) ?_
          refine DrO.nil ⟨by kernel_rfl, ?_⟩
          refine ⟨rfl, Gh.only 7 18 ?_ (by first | rfl | simp -implicitDefEqProofs [d18, hcast, d37, hil, hip, hoi, hpi, hiw, g45]) (by rfl)⟩
          simp -implicitDefEqProofs [d18, hcast, d37, hil, hip, hoi, hpi, hiw, g45, g45']
      refine WpC.ops tabOk (r := []) (by simp -implicitDefEqProofs [d18, hcast, d37, hil, hip, hoi, hpi, hiw] <;> rfl) rfl ?_
      exact ⟨(i + 1, decide (0 ≤ p ∧ p ≤ o.bal)), ⟨by simp; omega, by simp only; rw [hst]⟩, by simp; omega, Gh.cut' [7, 8, 0, 1, 5, 6] 0 (by simp -implicitDefEqProofs [d18, hcast, d37, hil, hip, hoi, hpi, hiw]) (by simp) rfl (by simp) (by simp) (by simp)⟩
    · refine WpC.exit ?_
      refine WpC.seq ?_
      have hr : ok = r := by
        rw [← hok]
        unfold paidB
        rw [h2]
        by_cases hil : i < l.length
        · have hrf : r = false := by
            cases r with
            | false => rfl
            | true => exact absurd ⟨hil, rfl⟩ d37
          rw [hrf] at h2
          rw [← h2]
          cases hd : decide (l.length = ps.length) with
          | false => rfl
          | true =>
            rw [hd, Bool.true_and] at h2
            cases hq : payB l ps l.length with
            | false => rfl
            | true => rw [payB_le hq h1] at h2; cases h2
        · rw [show i = l.length by omega]
      subst hr
      refine WpC.seq (WpC.ops tabOk (r := []) (by simp -implicitDefEqProofs [d18, hcast, d37] <;> rfl) rfl ?_)
      refine WpC.condD (ok = false) (by simp -implicitDefEqProofs [d18, hcast, d37]) (fun d58 => ?_) (fun d58 => ?_)
      · rw [if_neg (by rw [d58]; simp)] at hK
        subst hK
        refine WpC.seq ?_
        refine WpC.val 4 (.d (.bool (true))) ?_ ?_
        · refine WpC.region ?_
          refine WpO.run tabOk 4 (by simp -implicitDefEqProofs [d18, hcast, d37, d58] <;> first | exact ⟨rfl, rfl⟩ | rfl) ?_
          refine WpO.splitB 62 (by simp -implicitDefEqProofs [d18, hcast, d37, d58] <;> rfl) (by rfl) (fun g62 => ?_) (fun g62 => ?_)
          · try (exfalso; revert g62; simp; done)
            all_goals
              have g62' := g62; first | simp only [dT, dF] at g62' | try simp at g62'
              refine WpO.run tabOk 4 (by simp -implicitDefEqProofs [d18, hcast, d37, d58, g62] <;> first | exact ⟨rfl, rfl⟩ | rfl) ?_
              refine WpO.splitB 66 (by simp -implicitDefEqProofs [d18, hcast, d37, d58, g62] <;> rfl) (by rfl) (fun g66 => ?_) (fun g66 => ?_)
              · try (exfalso; revert g66; simp; done)
                all_goals
                  have g66' := g66; first | simp only [dT, dF] at g66' | try simp at g66'
                  refine WpO.data (by simp) rfl (by simp -implicitDefEqProofs [d18, hcast, d37, d58, g62, g66] <;> rfl) (by simp -implicitDefEqProofs [d18, hcast, d37, d58, g62, g66] <;> rfl) (by simp -implicitDefEqProofs [d18, hcast, d37, d58, g62, g66] <;> rfl) call_10 (by simp) (awake15_ok) (by rfl) (by simp -implicitDefEqProofs [d18, hcast, d37, d58, g62, g66] <;> rfl) ?_
                  refine WpO.run tabOk 2 (by simp -implicitDefEqProofs [d18, hcast, d37, d58, g62, g66] <;> first | exact ⟨rfl, rfl⟩ | rfl) ?_
                  refine WpO.nil ?_
                  refine ⟨rfl, Gh.only 4 13 ?_ (by first | rfl | simp -implicitDefEqProofs [d18, hcast, d37, d58, g62, g66]) (by rfl)⟩
                  simp -implicitDefEqProofs [d18, hcast, d37, d58, g62, g66, g62', g66']
              · try (exfalso; revert g66; simp; done)
                all_goals
                  have g66' := g66; first | simp only [dT, dF] at g66' | try simp at g66'
                  refine WpO.run tabOk 3 (by simp -implicitDefEqProofs [d18, hcast, d37, d58, g62, g66] <;> first | exact ⟨rfl, rfl⟩ | rfl) ?_
                  refine WpO.nil ?_
                  refine ⟨rfl, Gh.only 4 13 ?_ (by first | rfl | simp -implicitDefEqProofs [d18, hcast, d37, d58, g62, g66]) (by rfl)⟩
                  simp -implicitDefEqProofs [d18, hcast, d37, d58, g62, g66, g62', g66']
          · try (exfalso; revert g62; simp; done)
            all_goals
              have g62' := g62; first | simp only [dT, dF] at g62' | try simp at g62'
              refine WpO.run tabOk 7 (by simp -implicitDefEqProofs [d18, hcast, d37, d58, g62] <;> first | exact ⟨rfl, rfl⟩ | rfl) ?_
              refine WpO.nil ?_
              refine ⟨rfl, Gh.only 4 12 ?_ (by first | rfl | simp -implicitDefEqProofs [d18, hcast, d37, d58, g62]) (by rfl)⟩
              simp -implicitDefEqProofs [d18, hcast, d37, d58, g62, g62']
        refine WpC.ret ?_
        try simp only [blockQ, seqQ]
        refine retD_i (by simp -implicitDefEqProofs [d18, hcast, d37, d58] <;> rfl) (by simp -implicitDefEqProofs [d18, hcast, d37, d58] <;> rfl) ?_
        simp -implicitDefEqProofs [d18, hcast, d37, d58]
      · have hokt : ok = true := by cases ok <;> simp_all
        rw [if_pos hokt] at hK
        have hKl : K.length = l.length := by rw [← hK]; simp
        rw [hokt] at hok
        unfold paidB at hok
        rw [Bool.and_eq_true] at hok
        have hle : l.length = ps.length := of_decide_eq_true hok.1
        refine WpC.skip ?_
        refine WpC.seq ?_
        refine WpC.seq ?_
        refine WpC.val 77 (.d (.bool (false))) ?_ ?_
        · refine WpC.region ?_
          refine WpO.run tabOk 6 (by simp -implicitDefEqProofs [d18, hcast, d37, d58, hKl, hokt] <;> first | exact ⟨rfl, rfl⟩ | rfl) ?_
          refine WpO.splitB 74 (by simp -implicitDefEqProofs [d18, hcast, d37, d58, hKl, hokt] <;> rfl) (by rfl) (fun g74 => ?_) (fun g74 => ?_)
          · try (exfalso; revert g74; simp; done)
            all_goals
              have g74' := g74; first | simp only [dT, dF] at g74' | try simp at g74'
              refine WpO.run tabOk 3 (by simp -implicitDefEqProofs [d18, hcast, d37, d58, hKl, hokt, g74] <;> first | exact ⟨rfl, rfl⟩ | rfl) ?_
              refine WpO.nil ?_
              refine ⟨rfl, Gh.only 77 10 ?_ (by first | rfl | simp -implicitDefEqProofs [d18, hcast, d37, d58, hKl, hokt, g74]) (by rfl)⟩
              simp -implicitDefEqProofs [d18, hcast, d37, d58, hKl, hokt, g74, g74']
          · try (exfalso; revert g74; simp; done)
            all_goals
              have g74' := g74; first | simp only [dT, dF] at g74' | try simp at g74'
              refine WpO.run tabOk 3 (by simp -implicitDefEqProofs [d18, hcast, d37, d58, hKl, hokt, g74] <;> first | exact ⟨rfl, rfl⟩ | rfl) ?_
              refine WpO.nil ?_
              refine ⟨rfl, Gh.only 77 10 ?_ (by first | rfl | simp -implicitDefEqProofs [d18, hcast, d37, d58, hKl, hokt, g74]) (by rfl)⟩
              simp -implicitDefEqProofs [d18, hcast, d37, d58, hKl, hokt, g74, g74']
        refine WpC.condF (by simp -implicitDefEqProofs [d18, hcast, d37, d58, hKl, hokt] <;> rfl) ?_
        refine WpC.skip ?_
        refine WpC.seq ?_
        refine WpC.seq (WpC.ops tabOk (r := []) (by simp -implicitDefEqProofs [d18, hcast, d37, d58, hKl, hokt] <;> rfl) rfl ?_)
        refine WpC.block ?_
        refine WpC.loopK [1, 5, 78, 79] [80] (l.length) (() : Unit) (fun k _ => [(80, .d (.int .i64 k))]) (fun k _ => []) (fun k _ => True) (by simp -implicitDefEqProofs [d18, hcast, d37, d58, hKl, hokt] <;> rfl) (Gh.cut' [80, 1, 5, 78, 79] 0 (by simp -implicitDefEqProofs [d18, hcast, d37, d58, hKl, hokt]) (by simp -implicitDefEqProofs [d18, hcast, d37, d58, hKl, hokt]) rfl (by simp) (by simp) (by simp)) (by simp) ?_
        rintro k ⟨⟩ hk hi
        simp only [List.cons_append, List.nil_append]
        refine WpC.seq (WpC.ops tabOk (r := []) (by simp -implicitDefEqProofs [d18, hcast, d37, d58, hKl, hokt] <;> rfl) rfl ?_)
        refine WpC.seq (WpC.condD (k < l.length) (by simp -implicitDefEqProofs [d18, hcast, d37, d58, hKl, hokt] <;> omega) (fun hlt => ?_) (fun hge => ?_))
        · refine WpC.skip ?_
          obtain ⟨x, hx⟩ : ∃ x, l[k] = x := ⟨_, rfl⟩
          have hkp : k < ps.length := by omega
          obtain ⟨p, hp⟩ : ∃ p, ps[k] = p := ⟨_, rfl⟩
          have hkK : k < K.length := by omega
          have hKk : K[k] = ⟨x.cred, x.pri, x.claim, x.bal - p⟩ := by
            have h5 : (payL l ps l.length)[k]? = some ⟨x.cred, x.pri, x.claim, x.bal - p⟩ := by
              rw [List.getElem?_eq_getElem (by simpa using hlt), payL_at, if_pos hlt, ordAt_at hlt, intAt_at hkp, hx, hp]; rfl
            rw [hK, List.getElem?_eq_getElem hkK] at h5
            exact Option.some.inj h5
          have hxb := (ho x (hx ▸ List.getElem_mem hlt)).2.2.2
          have hpb : 0 ≤ p ∧ p ≤ x.bal := by
            have h6 := payB_le hok.2 (show k + 1 ≤ l.length from hlt)
            rw [payB_step, Bool.and_eq_true, ordAt_at hlt, intAt_at hkp, hx, hp] at h6
            exact of_decide_eq_true h6.2
          unfold in64 at hxb
          have hw : IntKind.i64.wrap (x.bal - p) = x.bal - p := wrapI (by omega) (by omega)
          have hkw : IntKind.i64.wrap ((k : Int) + 1) = k + 1 := wrapI (by omega) (by omega)
          have hob : ordB ⟨x.cred, x.pri, x.claim, x.bal - p⟩ ⟨x.cred, x.pri, x.claim, x.bal - p⟩ = true := by simp [ordB]
          refine WpC.seq ?_
          refine WpC.block ?_
          refine WpC.seq (WpC.ops tabOk (r := []) (by simp -implicitDefEqProofs [d18, hcast, d37, d58, hKl, hokt, hlt, hx, hkp, hp, hkK, hKk, hw, hkw, hob] <;> rfl) rfl ?_)
          refine WpC.seq (WpC.drawn tabOk (by kernel_rfl) 0 (by simp) ?_)
          refine DrO.run (fz := []) 3 (by simp -implicitDefEqProofs [d18, hcast, d37, d58, hKl, hokt, hlt, hx, hkp, hp, hkK, hKk, hw, hkw, hob] <;> first | exact ⟨rfl, rfl, rfl, rfl⟩ | rfl) ?_
          refine DrO.run (fz := []) 3 (by simp -implicitDefEqProofs [d18, hcast, d37, d58, hKl, hokt, hlt, hx, hkp, hp, hkK, hKk, hw, hkw, hob] <;> first | exact ⟨rfl, rfl, rfl, rfl⟩ | rfl) ?_
          refine DrO.run (fz := []) 3 (by simp -implicitDefEqProofs [d18, hcast, d37, d58, hKl, hokt, hlt, hx, hkp, hp, hkK, hKk, hw, hkw, hob] <;> first | exact ⟨rfl, rfl, rfl, rfl⟩ | rfl) ?_
          refine DrO.nil ⟨by kernel_rfl, ?_⟩
          refine WpC.seq ?_
          refine WpC.drawn tabOk (by kernel_rfl) 0 (by simp) ?_
          refine DrO.run (fz := []) 3 (by simp -implicitDefEqProofs [d18, hcast, d37, d58, hKl, hokt, hlt, hx, hkp, hp, hkK, hKk, hw, hkw, hob] <;> first | exact ⟨rfl, rfl, rfl, rfl⟩ | rfl) ?_
          refine DrO.run (fz := []) 2 (by simp -implicitDefEqProofs [d18, hcast, d37, d58, hKl, hokt, hlt, hx, hkp, hp, hkK, hKk, hw, hkw, hob] <;> first | exact ⟨rfl, rfl, rfl, rfl⟩ | rfl) ?_
          refine DrO.eqS true (by simp) rfl (by simp -implicitDefEqProofs [d18, hcast, d37, d58, hKl, hokt, hlt, hx, hkp, hp, hkK, hKk, hw, hkw, hob] <;> rfl) (by simp -implicitDefEqProofs [d18, hcast, d37, d58, hKl, hokt, hlt, hx, hkp, hp, hkK, hKk, hw, hkw, hob] <;> rfl) (eqOrd ⟨x.cred, x.pri, x.claim, x.bal - p⟩ ⟨x.cred, x.pri, x.claim, x.bal - p⟩) (by simp -implicitDefEqProofs [d18, hcast, d37, d58, hKl, hokt, hlt, hx, hkp, hp, hkK, hKk, hw, hkw, hob] <;> rfl) ?_
          refine DrO.nil ⟨by kernel_rfl, ?_⟩
          refine WpC.condF (by simp -implicitDefEqProofs [d18, hcast, d37, d58, hKl, hokt, hlt, hx, hkp, hp, hkK, hKk, hw, hkw, hob] <;> rfl) ?_
          refine WpC.skip ?_
          refine WpC.ops tabOk (r := []) (by simp -implicitDefEqProofs [d18, hcast, d37, d58, hKl, hokt, hlt, hx, hkp, hp, hkK, hKk, hw, hkw, hob] <;> rfl) rfl ?_
          exact ⟨hlt, (), trivial, Gh.cut' [80, 1, 5, 78, 79] 0 (by simp -implicitDefEqProofs [d18, hcast, d37, d58, hKl, hokt, hlt, hx, hkp, hp, hkK, hKk, hw, hkw, hob]) (by simp) rfl (by simp) (by simp) (by simp)⟩
        · refine WpC.exit ?_
          have hkn : k = l.length := by omega
          subst hkn
          refine WpC.seq ?_
          refine WpC.region ?_
          refine WpO.data (by simp) rfl (by simp -implicitDefEqProofs [d18, hcast, d37, d58, hKl, hokt] <;> rfl) (by simp -implicitDefEqProofs [d18, hcast, d37, d58, hKl, hokt] <;> rfl) (by simp -implicitDefEqProofs [d18, hcast, d37, d58, hKl, hokt] <;> rfl) call_10 (by simp) (awake15_ok) (by rfl) (by simp -implicitDefEqProofs [d18, hcast, d37, d58, hKl, hokt] <;> rfl) ?_
          refine WpO.run tabOk 1 (by simp -implicitDefEqProofs [d18, hcast, d37, d58, hKl, hokt] <;> first | exact ⟨rfl, rfl⟩ | rfl) ?_
          refine WpO.nil ?_
          refine WpC.ret ?_
          try simp only [blockQ, seqQ]
          refine retD_i (by simp -implicitDefEqProofs [d18, hcast, d37, d58, hKl, hokt] <;> rfl) (by simp -implicitDefEqProofs [d18, hcast, d37, d58, hKl, hokt] <;> rfl) ?_
          simp -implicitDefEqProofs [d18, hcast, d37, d58, hKl, hokt]
section
variable {w : World}
theorem garnishPaid_row {e0 e1 : List D} {v0 v1 : Value} {i0 i1 : TI} (y0 : HasT tab 8 22 e0) (y1 : HasT tab 8 24 e1) (t0 : some i0 = tab 22) (t1 : some i1 = tab 24)
    (z0 : DRel w (lt w) (elemD i0 e0) v0) (z1 : DRel w (lt w) (elemD i1 e1) v1) :
    Calls Try.prog 4 #[v0, v1] w fun e w' => e = .returned (.bool true) ∧ Below w.heap.size w w' := by
  rw [tab_22] at t0; cases t0
  rw [tab_24] at t1; cases t1
  obtain ⟨l, ho, hl, rfl⟩ := has_ords y0
  obtain ⟨ps, hg, hl2, rfl⟩ := has_ints y1 tab_24 tab_3
  refine WpF.law (garnishPaid_ok l ps ho) (fun r S h => h.1) (vs := [v0, v1]) ?_
  simp only [VRelL, VRel]
  exact ⟨v0, _, rfl, z0, v1, _, rfl, z1, rfl⟩
end
end Go.Proofs.Ytaobnhenjldjeaa.Pay
