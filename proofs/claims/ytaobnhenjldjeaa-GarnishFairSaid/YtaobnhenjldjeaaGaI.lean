/- Law GarnishFair. No statement of the seed is proved here. -/
import Derived.Test.YtaobnhenjldjeaaGaP
namespace Go.Proofs.Ytaobnhenjldjeaa.Pay
open Go Go.RowKit
set_option linter.unusedVariables false
set_option linter.unusedSimpArgs false
set_option linter.unusedSectionVars false

set_option maxHeartbeats 40000000 in
theorem garnishFair_ok (net prot : Int) (l : List Ord) (hn64 : in64 net) (hp64 : in64 prot) (hl : l.length ≤ 9223372036854775807) (ho : ∀ o ∈ l, o.ok) : Gives Try.prog 5 [.d (dI net), .d (dI prot), .d (encOs l)] (.d (.bool true)) := by
  refine Gives.enter tabOk Try.func5 rfl (by show 3 ≤ 151; decide) ?_
  simp only [Try.f5]
  refine WpC.seq (WpC.ops tabOk (r := []) (by simp -implicitDefEqProofs <;> rfl) rfl ?_)
  refine WpC.seq ?_
  refine WpC.seq (WpC.ops tabOk (r := []) (by simp -implicitDefEqProofs <;> rfl) rfl ?_)
  refine WpC.condD ((8 : Int) < l.length) (by simp -implicitDefEqProofs) (fun d20 => ?_) (fun d20 => ?_)
  · refine WpC.seq ?_
    refine WpC.region ?_
    refine WpO.data (by simp) rfl (by simp -implicitDefEqProofs [d20] <;> rfl) (by simp -implicitDefEqProofs [d20] <;> rfl) (by simp -implicitDefEqProofs [d20] <;> rfl) call_10 (by simp) (awake15_ok) (by rfl) (by simp -implicitDefEqProofs [d20] <;> rfl) ?_
    refine WpO.run tabOk 1 (by simp -implicitDefEqProofs [d20] <;> first | exact ⟨rfl, rfl⟩ | rfl) ?_
    refine WpO.nil ?_
    refine WpC.ret ?_
    try simp only [blockQ, seqQ]
    refine retD_i (by simp -implicitDefEqProofs [d20] <;> rfl) (by simp -implicitDefEqProofs [d20] <;> rfl) ?_
    simp -implicitDefEqProofs [d20]
  · have hl8 : l.length ≤ 8 := by omega
    have hs := serveL_ok net prot l (by omega)
    have hfa := fun h => outI_facts (net := net) (prot := prot) (l := l) h
    have hno := fun h => outI_none (net := net) (prot := prot) (l := l) h
    have hcg := fun h => chk_good (net := net) (prot := prot) (l := l) h
    have hmx := max0 (net - prot)
    obtain ⟨A, hA⟩ : ∃ A, at0 (net - prot) = A := ⟨_, rfl⟩
    obtain ⟨e, he⟩ : ∃ e, chkE net prot l = e := ⟨_, rfl⟩
    obtain ⟨K, hK⟩ : ∃ K, outI net prot l = K := ⟨_, rfl⟩
    rw [hK, he] at hs hfa
    rw [hK, he] at hno
    rw [he] at hcg
    rw [hA] at hfa hcg hmx
    refine WpC.skip ?_
    refine WpC.seq ?_
    refine WpC.region ?_
    refine WpO.run tabOk 3 (by simp -implicitDefEqProofs [d20] <;> first | exact ⟨rfl, rfl⟩ | rfl) ?_
    refine WpO.data (by simp) rfl (by simp -implicitDefEqProofs [d20] <;> rfl) (by simp -implicitDefEqProofs [d20] <;> rfl) (by simp -implicitDefEqProofs [d20] <;> rfl) call_11 (by simp) (hs) (by rfl) (by simp -implicitDefEqProofs [d20] <;> rfl) ?_
    refine WpO.run tabOk 5 (by simp -implicitDefEqProofs [d20] <;> first | exact ⟨rfl, rfl⟩ | rfl) ?_
    refine WpO.nil ?_
    refine WpC.seq ?_
    refine WpC.seq (WpC.ops tabOk (r := []) (by simp -implicitDefEqProofs [d20] <;> rfl) rfl ?_)
    refine WpC.condD (¬ e = 0) (by simp -implicitDefEqProofs [d20]) (fun d30 => ?_) (fun d30 => ?_)
    · have hKe := hno d30
      subst hKe
      refine WpC.seq ?_
      refine WpC.region ?_
      refine WpO.run tabOk 4 (by simp -implicitDefEqProofs [d20, d30] <;> first | exact ⟨rfl, rfl⟩ | rfl) ?_
      refine WpO.splitB 34 (by simp -implicitDefEqProofs [d20, d30] <;> rfl) (by rfl) (fun g34 => ?_) (fun g34 => ?_)
      · have g34' := g34; first | simp only [dT, dF] at g34' | try simp at g34'
        refine WpO.data (by simp) rfl (by simp -implicitDefEqProofs [d20, d30, g34] <;> rfl) (by simp -implicitDefEqProofs [d20, d30, g34] <;> rfl) (by simp -implicitDefEqProofs [d20, d30, g34] <;> rfl) call_10 (by simp) (awake15_ok) (by rfl) (by simp -implicitDefEqProofs [d20, d30, g34] <;> rfl) ?_
        refine WpO.run tabOk 2 (by simp -implicitDefEqProofs [d20, d30, g34] <;> first | exact ⟨rfl, rfl⟩ | rfl) ?_
        refine WpO.nil ?_
        refine WpC.ret ?_
        try simp only [blockQ, seqQ]
        refine retD_i (by simp -implicitDefEqProofs [d20, d30, g34] <;> rfl) (by simp -implicitDefEqProofs [d20, d30, g34] <;> rfl) ?_
        simp -implicitDefEqProofs [d20, d30, g34]
      · exact absurd g34 (by simp)
    · have he0 : e = 0 := Classical.not_not.1 d30
      obtain ⟨hKl, hKi⟩ := hfa he0
      obtain ⟨g, hall, hnet, hprot⟩ := hcg he0
      obtain ⟨n, hn⟩ : ∃ n, l.length = n := ⟨_, rfl⟩
      rw [hn] at hKl g hKi
      have hle := fun i hi => outN_le (i := i) g hi
      have hft := fun i j hi hj => outN_first (i := i) (j := j) g hi hj
      have hpt := fun k hk => out_part (k := k) g hk
      have hab := alB_not g
      have htt := out_total g
      obtain ⟨o, hoo⟩ : ∃ o, outN A (priF l) (wantF l) n = o := ⟨_, rfl⟩
      obtain ⟨P, hP⟩ : ∃ P, priF l = P := ⟨_, rfl⟩
      obtain ⟨W, hW⟩ : ∃ W, wantF l = W := ⟨_, rfl⟩
      have hPi : ∀ i (h : i < l.length), P i = l[i].pri := fun i h => by rw [← hP]; unfold priF; rw [List.getElem?_eq_getElem h]; rfl
      have hWi : ∀ i (h : i < l.length), W i = min l[i].claim l[i].bal := fun i h => by rw [← hW]; unfold wantF; rw [List.getElem?_eq_getElem h]; rfl
      rw [hoo] at hKi hle hft hpt hab htt
      rw [hW] at hle hft hab htt
      rw [hP] at hft
      have hA2 : A ≤ 2251799813685248 := by rw [← hA]; unfold at0; split <;> omega
      have w1 : IntKind.i64.wrap (net - prot) = net - prot := wrapI (by omega) (by omega)
      have hpd := paid_ok l K (by omega) (by omega) fun o h => (ho o h).2.2.2
      have hpb : paidB l K = true := by
        unfold paidB payB
        rw [Bool.and_eq_true]
        refine ⟨decide_eq_true (by omega), ?_⟩
        rw [List.all_eq_true]
        intro i hi
        have hi := List.mem_range.1 hi
        have hiK : i < K.length := by omega
        have h1 := hle i (by omega)
        have h2 := hWi i hi
        rw [intAt_at hiK, hKi i hiK, ordAt_at hi]
        exact decide_eq_true (by omega)
      rw [hpb, if_pos rfl] at hpd
      have hs0 : sumF o 0 = 0 := rfl
      have ha0 : alB o W 0 = true := rfl
      refine WpC.skip ?_
      refine WpC.seq ?_
      refine WpC.seq (WpC.ops tabOk (r := []) (by simp -implicitDefEqProofs [d20, d30, hn, hKl, hmx, w1, hs0, ha0] <;> rfl) rfl ?_)
      refine WpC.condF (by simp -implicitDefEqProofs [d20, d30, hn, hKl, hmx, w1, hs0, ha0] <;> rfl) ?_
      refine WpC.skip ?_
      refine WpC.seq (WpC.ops tabOk (r := []) (by simp -implicitDefEqProofs [d20, d30, hn, hKl, hmx, w1, hs0, ha0] <;> rfl) rfl ?_)
      refine WpC.seq ?_
      refine WpC.seq (WpC.ops tabOk (r := []) (by simp -implicitDefEqProofs [d20, d30, hn, hKl, hmx, w1, hs0, ha0] <;> rfl) rfl ?_)
      refine WpC.block ?_
      refine WpC.loopK [0, 1, 2, 7, 42, 43] [9, 10, 44] (n) (() : Unit) (fun k _ => [(9, .d (dI (sumF o k))), (10, .d (.bool (alB o W k))), (44, .d (.int .i64 k))]) (fun k _ => []) (fun k _ => True) (by simp -implicitDefEqProofs [d20, d30, hn, hKl, hmx, w1, hs0, ha0] <;> rfl) (Gh.cut' [9, 10, 44, 0, 1, 2, 7, 42, 43] 0 (by simp -implicitDefEqProofs [d20, d30, hn, hKl, hmx, w1, hs0, ha0]) (by simp -implicitDefEqProofs [d20, d30, hn, hKl, hmx, w1, hs0, ha0]) rfl (by simp) (by simp) (by simp)) (by simp) ?_
      rintro k ⟨⟩ hk hi
      simp only [List.cons_append, List.nil_append]
      refine WpC.seq (WpC.ops tabOk (r := []) (by simp -implicitDefEqProofs [d20, d30, hn, hKl, hmx, w1, hs0, ha0] <;> rfl) rfl ?_)
      refine WpC.seq (WpC.condD (k < n) (by simp -implicitDefEqProofs [d20, d30, hn, hKl, hmx, w1, hs0, ha0] <;> omega) (fun hlt => ?_) (fun hge => ?_))
      · refine WpC.skip ?_
        have hkl : k < l.length := by omega
        have hkK : k < K.length := by omega
        obtain ⟨x, hx⟩ : ∃ x, l[k] = x := ⟨_, rfl⟩
        obtain ⟨y, hy⟩ : ∃ y, K[k] = y := ⟨_, rfl⟩
        have hyo : y = o k := by rw [← hy]; exact hKi k hkK
        have hlek := hle k hlt
        have hPk := hPi k hkl
        have hWk := hWi k hkl
        have hst := sumF_step o k
        have hal := alB_step o W k
        have hp1 := hpt k (by omega)
        have hp2 := hpt (k + 1) (by omega)
        have hf1 := fun j hj => hft k j hlt hj
        rw [hx] at hPk hWk
        rw [← hyo] at hlek hst hal hf1
        rw [hWk] at hlek hal
        rw [hPk] at hf1
        obtain ⟨s, hs⟩ : ∃ s, sumF o k = s := ⟨_, rfl⟩
        obtain ⟨al, hal1⟩ : ∃ s, alB o W k = s := ⟨_, rfl⟩
        rw [hs] at hst hp1
        rw [hst] at hp2
        rw [hal1] at hal
        have hsw : IntKind.i64.wrap (s + y) = s + y := wrapI (by omega) (by omega)
        have hkw : IntKind.i64.wrap ((k : Int) + 1) = k + 1 := wrapI (by omega) (by omega)
        have hy1 : ¬ y < 0 := by omega
        have hy2 : ¬ min x.claim x.bal < y := by omega
        refine WpC.seq ?_
        refine WpC.block ?_
        refine WpC.seq (WpC.ops tabOk (r := []) (by simp -implicitDefEqProofs [d20, d30, hn, hKl, hmx, w1, hs0, ha0, hlt, hkl, hkK, hx, hy, hs, hal1, hsw, hkw, hy1, hy2] <;> rfl) rfl ?_)
        refine WpC.seq (WpC.ops tabOk (r := []) (by simp -implicitDefEqProofs [d20, d30, hn, hKl, hmx, w1, hs0, ha0, hlt, hkl, hkK, hx, hy, hs, hal1, hsw, hkw, hy1, hy2] <;> rfl) rfl ?_)
        refine WpC.seq ?_
        refine WpC.val 10 (.d (.bool (al && decide (y = min x.claim x.bal)))) ?_ ?_
        · refine WpC.drawn tabOk (by kernel_rfl) 0 (by simp) ?_
          refine DrO.run (fz := []) 2 (by simp -implicitDefEqProofs [d20, d30, hn, hKl, hmx, w1, hs0, ha0, hlt, hkl, hkK, hx, hy, hs, hal1, hsw, hkw, hy1, hy2] <;> first | exact ⟨rfl, rfl, rfl, rfl⟩ | rfl) ?_
          refine DrO.splitB 53 (by simp -implicitDefEqProofs [d20, d30, hn, hKl, hmx, w1, hs0, ha0, hlt, hkl, hkK, hx, hy, hs, hal1, hsw, hkw, hy1, hy2] <;> rfl) (by rfl) (fun g53 => ?_) (fun g53 => ?_)
          · have g53' := g53; first | simp only [dT, dF] at g53' | try simp at g53'
            refine DrO.run (fz := []) 3 (by simp -implicitDefEqProofs [d20, d30, hn, hKl, hmx, w1, hs0, ha0, hlt, hkl, hkK, hx, hy, hs, hal1, hsw, hkw, hy1, hy2, g53] <;> first | exact ⟨rfl, rfl, rfl, rfl⟩ | rfl) ?_
            refine DrO.run (fz := []) 3 (by simp -implicitDefEqProofs [d20, d30, hn, hKl, hmx, w1, hs0, ha0, hlt, hkl, hkK, hx, hy, hs, hal1, hsw, hkw, hy1, hy2, g53] <;> first | exact ⟨rfl, rfl, rfl, rfl⟩ | rfl) ?_
            refine DrO.run (fz := []) 3 (by simp -implicitDefEqProofs [d20, d30, hn, hKl, hmx, w1, hs0, ha0, hlt, hkl, hkK, hx, hy, hs, hal1, hsw, hkw, hy1, hy2, g53] <;> first | exact ⟨rfl, rfl, rfl, rfl⟩ | rfl) ?_
            refine DrO.run (fz := []) 3 (by simp -implicitDefEqProofs [d20, d30, hn, hKl, hmx, w1, hs0, ha0, hlt, hkl, hkK, hx, hy, hs, hal1, hsw, hkw, hy1, hy2, g53] <;> first | exact ⟨rfl, rfl, rfl, rfl⟩ | rfl) ?_
            refine DrO.run (fz := []) 3 (by simp -implicitDefEqProofs [d20, d30, hn, hKl, hmx, w1, hs0, ha0, hlt, hkl, hkK, hx, hy, hs, hal1, hsw, hkw, hy1, hy2, g53] <;> first | exact ⟨rfl, rfl, rfl, rfl⟩ | rfl) ?_
            refine DrO.nil ⟨by kernel_rfl, ?_⟩
            refine ⟨rfl, Gh.only 10 17 ?_ (by first | rfl | simp -implicitDefEqProofs [d20, d30, hn, hKl, hmx, w1, hs0, ha0, hlt, hkl, hkK, hx, hy, hs, hal1, hsw, hkw, hy1, hy2, g53]) (by rfl)⟩
            simp -implicitDefEqProofs [d20, d30, hn, hKl, hmx, w1, hs0, ha0, hlt, hkl, hkK, hx, hy, hs, hal1, hsw, hkw, hy1, hy2, g53, g53']
          · have g53' := g53; first | simp only [dT, dF] at g53' | try simp at g53'
            refine DrO.run (fz := []) 3 (by simp -implicitDefEqProofs [d20, d30, hn, hKl, hmx, w1, hs0, ha0, hlt, hkl, hkK, hx, hy, hs, hal1, hsw, hkw, hy1, hy2, g53] <;> first | exact ⟨rfl, rfl, rfl, rfl⟩ | rfl) ?_
            refine DrO.run (fz := []) 3 (by simp -implicitDefEqProofs [d20, d30, hn, hKl, hmx, w1, hs0, ha0, hlt, hkl, hkK, hx, hy, hs, hal1, hsw, hkw, hy1, hy2, g53] <;> first | exact ⟨rfl, rfl, rfl, rfl⟩ | rfl) ?_
            refine DrO.run (fz := []) 3 (by simp -implicitDefEqProofs [d20, d30, hn, hKl, hmx, w1, hs0, ha0, hlt, hkl, hkK, hx, hy, hs, hal1, hsw, hkw, hy1, hy2, g53] <;> first | exact ⟨rfl, rfl, rfl, rfl⟩ | rfl) ?_
            refine DrO.run (fz := []) 3 (by simp -implicitDefEqProofs [d20, d30, hn, hKl, hmx, w1, hs0, ha0, hlt, hkl, hkK, hx, hy, hs, hal1, hsw, hkw, hy1, hy2, g53] <;> first | exact ⟨rfl, rfl, rfl, rfl⟩ | rfl) ?_
            refine DrO.run (fz := []) 3 (by simp -implicitDefEqProofs [d20, d30, hn, hKl, hmx, w1, hs0, ha0, hlt, hkl, hkK, hx, hy, hs, hal1, hsw, hkw, hy1, hy2, g53] <;> first | exact ⟨rfl, rfl, rfl, rfl⟩ | rfl) ?_
            refine DrO.nil ⟨by kernel_rfl, ?_⟩
            refine ⟨rfl, Gh.only 10 17 ?_ (by first | rfl | simp -implicitDefEqProofs [d20, d30, hn, hKl, hmx, w1, hs0, ha0, hlt, hkl, hkK, hx, hy, hs, hal1, hsw, hkw, hy1, hy2, g53]) (by rfl)⟩
            simp -implicitDefEqProofs [d20, d30, hn, hKl, hmx, w1, hs0, ha0, hlt, hkl, hkK, hx, hy, hs, hal1, hsw, hkw, hy1, hy2, g53, g53']
        refine WpC.seq ?_
        refine WpC.seq ?_
        refine WpC.val 84 (.d (.bool (false))) ?_ ?_
        · refine WpC.drawn tabOk (by kernel_rfl) 0 (by simp) ?_
          refine DrO.run (fz := []) 3 (by simp -implicitDefEqProofs [d20, d30, hn, hKl, hmx, w1, hs0, ha0, hlt, hkl, hkK, hx, hy, hs, hal1, hsw, hkw, hy1, hy2] <;> first | exact ⟨rfl, rfl, rfl, rfl⟩ | rfl) ?_
          refine DrO.splitB 70 (by simp -implicitDefEqProofs [d20, d30, hn, hKl, hmx, w1, hs0, ha0, hlt, hkl, hkK, hx, hy, hs, hal1, hsw, hkw, hy1, hy2] <;> rfl) (by rfl) (fun g70 => ?_) (fun g70 => ?_)
          · try (exfalso; revert g70; simp; done)
            all_goals
              have g70' := g70; first | simp only [dT, dF] at g70' | try simp at g70'
              refine DrO.run (fz := []) 3 (by simp -implicitDefEqProofs [d20, d30, hn, hKl, hmx, w1, hs0, ha0, hlt, hkl, hkK, hx, hy, hs, hal1, hsw, hkw, hy1, hy2, g70] <;> first | exact ⟨rfl, rfl, rfl, rfl⟩ | rfl) ?_
              refine DrO.run (fz := []) 3 (by simp -implicitDefEqProofs [d20, d30, hn, hKl, hmx, w1, hs0, ha0, hlt, hkl, hkK, hx, hy, hs, hal1, hsw, hkw, hy1, hy2, g70] <;> first | exact ⟨rfl, rfl, rfl, rfl⟩ | rfl) ?_
              refine DrO.run (fz := []) 3 (by simp -implicitDefEqProofs [d20, d30, hn, hKl, hmx, w1, hs0, ha0, hlt, hkl, hkK, hx, hy, hs, hal1, hsw, hkw, hy1, hy2, g70] <;> first | exact ⟨rfl, rfl, rfl, rfl⟩ | rfl) ?_
              refine DrO.run (fz := []) 3 (by simp -implicitDefEqProofs [d20, d30, hn, hKl, hmx, w1, hs0, ha0, hlt, hkl, hkK, hx, hy, hs, hal1, hsw, hkw, hy1, hy2, g70] <;> first | exact ⟨rfl, rfl, rfl, rfl⟩ | rfl) ?_
              refine DrO.run (fz := []) 2 (by simp -implicitDefEqProofs [d20, d30, hn, hKl, hmx, w1, hs0, ha0, hlt, hkl, hkK, hx, hy, hs, hal1, hsw, hkw, hy1, hy2, g70] <;> first | exact ⟨rfl, rfl, rfl, rfl⟩ | rfl) ?_
              refine DrO.nil ⟨by kernel_rfl, ?_⟩
              refine ⟨rfl, Gh.only 84 17 ?_ (by first | rfl | simp -implicitDefEqProofs [d20, d30, hn, hKl, hmx, w1, hs0, ha0, hlt, hkl, hkK, hx, hy, hs, hal1, hsw, hkw, hy1, hy2, g70]) (by rfl)⟩
              simp -implicitDefEqProofs [d20, d30, hn, hKl, hmx, w1, hs0, ha0, hlt, hkl, hkK, hx, hy, hs, hal1, hsw, hkw, hy1, hy2, g70, g70']
          · try (exfalso; revert g70; simp; done)
            all_goals
              have g70' := g70; first | simp only [dT, dF] at g70' | try simp at g70'
              refine DrO.run (fz := []) 3 (by simp -implicitDefEqProofs [d20, d30, hn, hKl, hmx, w1, hs0, ha0, hlt, hkl, hkK, hx, hy, hs, hal1, hsw, hkw, hy1, hy2, g70] <;> first | exact ⟨rfl, rfl, rfl, rfl⟩ | rfl) ?_
              refine DrO.run (fz := []) 3 (by simp -implicitDefEqProofs [d20, d30, hn, hKl, hmx, w1, hs0, ha0, hlt, hkl, hkK, hx, hy, hs, hal1, hsw, hkw, hy1, hy2, g70] <;> first | exact ⟨rfl, rfl, rfl, rfl⟩ | rfl) ?_
              refine DrO.run (fz := []) 3 (by simp -implicitDefEqProofs [d20, d30, hn, hKl, hmx, w1, hs0, ha0, hlt, hkl, hkK, hx, hy, hs, hal1, hsw, hkw, hy1, hy2, g70] <;> first | exact ⟨rfl, rfl, rfl, rfl⟩ | rfl) ?_
              refine DrO.run (fz := []) 3 (by simp -implicitDefEqProofs [d20, d30, hn, hKl, hmx, w1, hs0, ha0, hlt, hkl, hkK, hx, hy, hs, hal1, hsw, hkw, hy1, hy2, g70] <;> first | exact ⟨rfl, rfl, rfl, rfl⟩ | rfl) ?_
              refine DrO.run (fz := []) 2 (by simp -implicitDefEqProofs [d20, d30, hn, hKl, hmx, w1, hs0, ha0, hlt, hkl, hkK, hx, hy, hs, hal1, hsw, hkw, hy1, hy2, g70] <;> first | exact ⟨rfl, rfl, rfl, rfl⟩ | rfl) ?_
              refine DrO.nil ⟨by kernel_rfl, ?_⟩
              refine ⟨rfl, Gh.only 84 17 ?_ (by first | rfl | simp -implicitDefEqProofs [d20, d30, hn, hKl, hmx, w1, hs0, ha0, hlt, hkl, hkK, hx, hy, hs, hal1, hsw, hkw, hy1, hy2, g70]) (by rfl)⟩
              simp -implicitDefEqProofs [d20, d30, hn, hKl, hmx, w1, hs0, ha0, hlt, hkl, hkK, hx, hy, hs, hal1, hsw, hkw, hy1, hy2, g70, g70']
        refine WpC.condF (by simp -implicitDefEqProofs [d20, d30, hn, hKl, hmx, w1, hs0, ha0, hlt, hkl, hkK, hx, hy, hs, hal1, hsw, hkw, hy1, hy2] <;> rfl) ?_
        refine WpC.skip ?_
        obtain ⟨i, rfl⟩ : ∃ i, i = k := ⟨k, rfl⟩
        have hiN : i < n := hlt
        refine WpC.seq (WpC.ops tabOk (r := []) (by simp -implicitDefEqProofs [d20, d30, hn, hKl, hmx, w1, hs0, ha0, hlt, hkl, hkK, hx, hy, hs, hal1, hsw, hkw, hy1, hy2, hiN] <;> rfl) rfl ?_)
        refine WpC.block ?_
        refine WpC.loopK [0, 1, 2, 7, 9, 10, 11, 12, 42, 43, 44, 85, 86] [87] (n) (() : Unit) (fun k _ => [(87, .d (.int .i64 k))]) (fun k _ => []) (fun k _ => True) (by simp -implicitDefEqProofs [d20, d30, hn, hKl, hmx, w1, hs0, ha0, hlt, hkl, hkK, hx, hy, hs, hal1, hsw, hkw, hy1, hy2, hiN] <;> rfl) (Gh.cut' [87, 0, 1, 2, 7, 9, 10, 11, 12, 42, 43, 44, 85, 86] 0 (by simp -implicitDefEqProofs [d20, d30, hn, hKl, hmx, w1, hs0, ha0, hlt, hkl, hkK, hx, hy, hs, hal1, hsw, hkw, hy1, hy2, hiN]) (by simp -implicitDefEqProofs [d20, d30, hn, hKl, hmx, w1, hs0, ha0, hlt, hkl, hkK, hx, hy, hs, hal1, hsw, hkw, hy1, hy2, hiN]) rfl (by simp) (by simp) (by simp)) (by simp) ?_
        rintro k ⟨⟩ hk hi
        simp only [List.cons_append, List.nil_append]
        refine WpC.seq (WpC.ops tabOk (r := []) (by simp -implicitDefEqProofs [d20, d30, hn, hKl, hmx, w1, hs0, ha0, hlt, hkl, hkK, hx, hy, hs, hal1, hsw, hkw, hy1, hy2, hiN] <;> rfl) rfl ?_)
        refine WpC.seq (WpC.condD (k < n) (by simp -implicitDefEqProofs [d20, d30, hn, hKl, hmx, w1, hs0, ha0, hlt, hkl, hkK, hx, hy, hs, hal1, hsw, hkw, hy1, hy2, hiN] <;> omega) (fun hlt => ?_) (fun hge => ?_))
        · refine WpC.skip ?_
          have hjl : k < l.length := by omega
          have hjK : k < K.length := by omega
          obtain ⟨z, hz⟩ : ∃ x, l[k] = x := ⟨_, rfl⟩
          obtain ⟨u, hu⟩ : ∃ y, K[k] = y := ⟨_, rfl⟩
          have huo : u = o k := by rw [← hu]; exact hKi k hjK
          have hPk := hPi k hjl
          have hWk := hWi k hjl
          have hf2 := hf1 k hlt
          rw [hz] at hPk hWk
          rw [← huo, hPk, hWk] at hf2
          have hjw : IntKind.i64.wrap ((k : Int) + 1) = k + 1 := wrapI (by omega) (by omega)
          refine WpC.seq ?_
          refine WpC.block ?_
          refine WpC.seq (WpC.ops tabOk (r := []) (by simp -implicitDefEqProofs [d20, d30, hn, hKl, hmx, w1, hs0, ha0, hlt, hkl, hkK, hx, hy, hs, hal1, hsw, hkw, hy1, hy2, hiN, hlt, hjl, hjK, hz, hu, hjw] <;> rfl) rfl ?_)
          refine WpC.seq ?_
          refine WpC.val 121 (.d (.bool (false))) ?_ ?_
          · refine WpC.drawn tabOk (by kernel_rfl) 0 (by simp) ?_
            refine DrO.run (fz := []) 3 (by simp -implicitDefEqProofs [d20, d30, hn, hKl, hmx, w1, hs0, ha0, hlt, hkl, hkK, hx, hy, hs, hal1, hsw, hkw, hy1, hy2, hiN, hlt, hjl, hjK, hz, hu, hjw] <;> first | exact ⟨rfl, rfl, rfl, rfl⟩ | rfl) ?_
            refine DrO.run (fz := []) 3 (by simp -implicitDefEqProofs [d20, d30, hn, hKl, hmx, w1, hs0, ha0, hlt, hkl, hkK, hx, hy, hs, hal1, hsw, hkw, hy1, hy2, hiN, hlt, hjl, hjK, hz, hu, hjw] <;> first | exact ⟨rfl, rfl, rfl, rfl⟩ | rfl) ?_
            refine DrO.run (fz := []) 3 (by simp -implicitDefEqProofs [d20, d30, hn, hKl, hmx, w1, hs0, ha0, hlt, hkl, hkK, hx, hy, hs, hal1, hsw, hkw, hy1, hy2, hiN, hlt, hjl, hjK, hz, hu, hjw] <;> first | exact ⟨rfl, rfl, rfl, rfl⟩ | rfl) ?_
            refine DrO.run (fz := []) 3 (by simp -implicitDefEqProofs [d20, d30, hn, hKl, hmx, w1, hs0, ha0, hlt, hkl, hkK, hx, hy, hs, hal1, hsw, hkw, hy1, hy2, hiN, hlt, hjl, hjK, hz, hu, hjw] <;> first | exact ⟨rfl, rfl, rfl, rfl⟩ | rfl) ?_
            refine DrO.splitB 103 (by simp -implicitDefEqProofs [d20, d30, hn, hKl, hmx, w1, hs0, ha0, hlt, hkl, hkK, hx, hy, hs, hal1, hsw, hkw, hy1, hy2, hiN, hlt, hjl, hjK, hz, hu, hjw] <;> rfl) (by rfl) (fun g103 => ?_) (fun g103 => ?_)
            · try (exfalso; revert g103; simp; done)
              all_goals
                have g103' := g103; first | simp only [dT, dF] at g103' | try simp at g103'
                refine DrO.run (fz := []) 3 (by simp -implicitDefEqProofs [d20, d30, hn, hKl, hmx, w1, hs0, ha0, hlt, hkl, hkK, hx, hy, hs, hal1, hsw, hkw, hy1, hy2, hiN, hlt, hjl, hjK, hz, hu, hjw, g103] <;> first | exact ⟨rfl, rfl, rfl, rfl⟩ | rfl) ?_
                refine DrO.run (fz := []) 1 (by simp -implicitDefEqProofs [d20, d30, hn, hKl, hmx, w1, hs0, ha0, hlt, hkl, hkK, hx, hy, hs, hal1, hsw, hkw, hy1, hy2, hiN, hlt, hjl, hjK, hz, hu, hjw, g103] <;> first | exact ⟨rfl, rfl, rfl, rfl⟩ | rfl) ?_
                refine DrO.splitB 107 (by simp -implicitDefEqProofs [d20, d30, hn, hKl, hmx, w1, hs0, ha0, hlt, hkl, hkK, hx, hy, hs, hal1, hsw, hkw, hy1, hy2, hiN, hlt, hjl, hjK, hz, hu, hjw, g103] <;> rfl) (by rfl) (fun g107 => ?_) (fun g107 => ?_)
                · try (exfalso; revert g107; simp; done)
                  all_goals
                    have g107' := g107; first | simp only [dT, dF] at g107' | try simp at g107'
                    refine DrO.run (fz := []) 3 (by simp -implicitDefEqProofs [d20, d30, hn, hKl, hmx, w1, hs0, ha0, hlt, hkl, hkK, hx, hy, hs, hal1, hsw, hkw, hy1, hy2, hiN, hlt, hjl, hjK, hz, hu, hjw, g103, g107] <;> first | exact ⟨rfl, rfl, rfl, rfl⟩ | rfl) ?_
                    refine DrO.run (fz := []) 3 (by simp -implicitDefEqProofs [d20, d30, hn, hKl, hmx, w1, hs0, ha0, hlt, hkl, hkK, hx, hy, hs, hal1, hsw, hkw, hy1, hy2, hiN, hlt, hjl, hjK, hz, hu, hjw, g103, g107] <;> first | exact ⟨rfl, rfl, rfl, rfl⟩ | rfl) ?_
                    refine DrO.run (fz := []) 3 (by simp -implicitDefEqProofs [d20, d30, hn, hKl, hmx, w1, hs0, ha0, hlt, hkl, hkK, hx, hy, hs, hal1, hsw, hkw, hy1, hy2, hiN, hlt, hjl, hjK, hz, hu, hjw, g103, g107] <;> first | exact ⟨rfl, rfl, rfl, rfl⟩ | rfl) ?_
                    refine DrO.run (fz := []) 3 (by simp -implicitDefEqProofs [d20, d30, hn, hKl, hmx, w1, hs0, ha0, hlt, hkl, hkK, hx, hy, hs, hal1, hsw, hkw, hy1, hy2, hiN, hlt, hjl, hjK, hz, hu, hjw, g103, g107] <;> first | exact ⟨rfl, rfl, rfl, rfl⟩ | rfl) ?_
                    refine DrO.run (fz := []) 2 (by simp -implicitDefEqProofs [d20, d30, hn, hKl, hmx, w1, hs0, ha0, hlt, hkl, hkK, hx, hy, hs, hal1, hsw, hkw, hy1, hy2, hiN, hlt, hjl, hjK, hz, hu, hjw, g103, g107] <;> first | exact ⟨rfl, rfl, rfl, rfl⟩ | rfl) ?_
                    refine DrO.nil ⟨by kernel_rfl, ?_⟩
                    refine ⟨rfl, Gh.only 121 30 ?_ (by first | rfl | simp -implicitDefEqProofs [d20, d30, hn, hKl, hmx, w1, hs0, ha0, hlt, hkl, hkK, hx, hy, hs, hal1, hsw, hkw, hy1, hy2, hiN, hlt, hjl, hjK, hz, hu, hjw, g103, g107]) (by rfl)⟩
                    simp -implicitDefEqProofs [d20, d30, hn, hKl, hmx, w1, hs0, ha0, hlt, hkl, hkK, hx, hy, hs, hal1, hsw, hkw, hy1, hy2, hiN, hlt, hjl, hjK, hz, hu, hjw, g103, g107, g103', g107'] <;> omega
                · try (exfalso; revert g107; simp; done)
                  all_goals
                    have g107' := g107; first | simp only [dT, dF] at g107' | try simp at g107'
                    refine DrO.run (fz := []) 3 (by simp -implicitDefEqProofs [d20, d30, hn, hKl, hmx, w1, hs0, ha0, hlt, hkl, hkK, hx, hy, hs, hal1, hsw, hkw, hy1, hy2, hiN, hlt, hjl, hjK, hz, hu, hjw, g103, g107] <;> first | exact ⟨rfl, rfl, rfl, rfl⟩ | rfl) ?_
                    refine DrO.run (fz := []) 3 (by simp -implicitDefEqProofs [d20, d30, hn, hKl, hmx, w1, hs0, ha0, hlt, hkl, hkK, hx, hy, hs, hal1, hsw, hkw, hy1, hy2, hiN, hlt, hjl, hjK, hz, hu, hjw, g103, g107] <;> first | exact ⟨rfl, rfl, rfl, rfl⟩ | rfl) ?_
                    refine DrO.run (fz := []) 3 (by simp -implicitDefEqProofs [d20, d30, hn, hKl, hmx, w1, hs0, ha0, hlt, hkl, hkK, hx, hy, hs, hal1, hsw, hkw, hy1, hy2, hiN, hlt, hjl, hjK, hz, hu, hjw, g103, g107] <;> first | exact ⟨rfl, rfl, rfl, rfl⟩ | rfl) ?_
                    refine DrO.run (fz := []) 3 (by simp -implicitDefEqProofs [d20, d30, hn, hKl, hmx, w1, hs0, ha0, hlt, hkl, hkK, hx, hy, hs, hal1, hsw, hkw, hy1, hy2, hiN, hlt, hjl, hjK, hz, hu, hjw, g103, g107] <;> first | exact ⟨rfl, rfl, rfl, rfl⟩ | rfl) ?_
                    refine DrO.run (fz := []) 2 (by simp -implicitDefEqProofs [d20, d30, hn, hKl, hmx, w1, hs0, ha0, hlt, hkl, hkK, hx, hy, hs, hal1, hsw, hkw, hy1, hy2, hiN, hlt, hjl, hjK, hz, hu, hjw, g103, g107] <;> first | exact ⟨rfl, rfl, rfl, rfl⟩ | rfl) ?_
                    refine DrO.nil ⟨by kernel_rfl, ?_⟩
                    refine ⟨rfl, Gh.only 121 30 ?_ (by first | rfl | simp -implicitDefEqProofs [d20, d30, hn, hKl, hmx, w1, hs0, ha0, hlt, hkl, hkK, hx, hy, hs, hal1, hsw, hkw, hy1, hy2, hiN, hlt, hjl, hjK, hz, hu, hjw, g103, g107]) (by rfl)⟩
                    simp -implicitDefEqProofs [d20, d30, hn, hKl, hmx, w1, hs0, ha0, hlt, hkl, hkK, hx, hy, hs, hal1, hsw, hkw, hy1, hy2, hiN, hlt, hjl, hjK, hz, hu, hjw, g103, g107, g103', g107'] <;> omega
            · try (exfalso; revert g103; simp; done)
              all_goals
                have g103' := g103; first | simp only [dT, dF] at g103' | try simp at g103'
                refine DrO.run (fz := []) 3 (by simp -implicitDefEqProofs [d20, d30, hn, hKl, hmx, w1, hs0, ha0, hlt, hkl, hkK, hx, hy, hs, hal1, hsw, hkw, hy1, hy2, hiN, hlt, hjl, hjK, hz, hu, hjw, g103] <;> first | exact ⟨rfl, rfl, rfl, rfl⟩ | rfl) ?_
                refine DrO.run (fz := []) 3 (by simp -implicitDefEqProofs [d20, d30, hn, hKl, hmx, w1, hs0, ha0, hlt, hkl, hkK, hx, hy, hs, hal1, hsw, hkw, hy1, hy2, hiN, hlt, hjl, hjK, hz, hu, hjw, g103] <;> first | exact ⟨rfl, rfl, rfl, rfl⟩ | rfl) ?_
                refine DrO.run (fz := []) 3 (by simp -implicitDefEqProofs [d20, d30, hn, hKl, hmx, w1, hs0, ha0, hlt, hkl, hkK, hx, hy, hs, hal1, hsw, hkw, hy1, hy2, hiN, hlt, hjl, hjK, hz, hu, hjw, g103] <;> first | exact ⟨rfl, rfl, rfl, rfl⟩ | rfl) ?_
                refine DrO.run (fz := []) 3 (by simp -implicitDefEqProofs [d20, d30, hn, hKl, hmx, w1, hs0, ha0, hlt, hkl, hkK, hx, hy, hs, hal1, hsw, hkw, hy1, hy2, hiN, hlt, hjl, hjK, hz, hu, hjw, g103] <;> first | exact ⟨rfl, rfl, rfl, rfl⟩ | rfl) ?_
                refine DrO.run (fz := []) 3 (by simp -implicitDefEqProofs [d20, d30, hn, hKl, hmx, w1, hs0, ha0, hlt, hkl, hkK, hx, hy, hs, hal1, hsw, hkw, hy1, hy2, hiN, hlt, hjl, hjK, hz, hu, hjw, g103] <;> first | exact ⟨rfl, rfl, rfl, rfl⟩ | rfl) ?_
                refine DrO.run (fz := []) 3 (by simp -implicitDefEqProofs [d20, d30, hn, hKl, hmx, w1, hs0, ha0, hlt, hkl, hkK, hx, hy, hs, hal1, hsw, hkw, hy1, hy2, hiN, hlt, hjl, hjK, hz, hu, hjw, g103] <;> first | exact ⟨rfl, rfl, rfl, rfl⟩ | rfl) ?_
                refine DrO.nil ⟨by kernel_rfl, ?_⟩
                refine ⟨rfl, Gh.only 121 30 ?_ (by first | rfl | simp -implicitDefEqProofs [d20, d30, hn, hKl, hmx, w1, hs0, ha0, hlt, hkl, hkK, hx, hy, hs, hal1, hsw, hkw, hy1, hy2, hiN, hlt, hjl, hjK, hz, hu, hjw, g103]) (by rfl)⟩
                simp -implicitDefEqProofs [d20, d30, hn, hKl, hmx, w1, hs0, ha0, hlt, hkl, hkK, hx, hy, hs, hal1, hsw, hkw, hy1, hy2, hiN, hlt, hjl, hjK, hz, hu, hjw, g103, g103'] <;> omega
          refine WpC.condF (by simp -implicitDefEqProofs [d20, d30, hn, hKl, hmx, w1, hs0, ha0, hlt, hkl, hkK, hx, hy, hs, hal1, hsw, hkw, hy1, hy2, hiN, hlt, hjl, hjK, hz, hu, hjw] <;> rfl) ?_
          refine WpC.skip ?_
          refine WpC.ops tabOk (r := []) (by simp -implicitDefEqProofs [d20, d30, hn, hKl, hmx, w1, hs0, ha0, hlt, hkl, hkK, hx, hy, hs, hal1, hsw, hkw, hy1, hy2, hiN, hlt, hjl, hjK, hz, hu, hjw] <;> rfl) rfl ?_
          exact ⟨hlt, (), trivial, Gh.cut' [87, 0, 1, 2, 7, 9, 10, 11, 12, 42, 43, 44, 85, 86] 0 (by simp -implicitDefEqProofs [d20, d30, hn, hKl, hmx, w1, hs0, ha0, hlt, hkl, hkK, hx, hy, hs, hal1, hsw, hkw, hy1, hy2, hiN, hlt, hjl, hjK, hz, hu, hjw]) (by simp) rfl (by simp) (by simp) (by simp)⟩
        · refine WpC.exit ?_
          refine WpC.ops tabOk (r := []) (by simp -implicitDefEqProofs [d20, d30, hn, hKl, hmx, w1, hs0, ha0, hlt, hkl, hkK, hx, hy, hs, hal1, hsw, hkw, hy1, hy2, hiN] <;> rfl) rfl ?_
          exact ⟨hlt, (), trivial, Gh.cut' [9, 10, 44, 0, 1, 2, 7, 42, 43] 0 (by simp -implicitDefEqProofs [d20, d30, hn, hKl, hmx, w1, hs0, ha0, hlt, hkl, hkK, hx, hy, hs, hal1, hsw, hkw, hy1, hy2, hiN, hst, hal]) (by simp) rfl (by simp) (by simp) (by simp)⟩
      · refine WpC.exit ?_
        have hkn : n = k := by omega
        subst hkn
        have hp3 := hpt n (Nat.le_refl _)
        obtain ⟨s, hs⟩ : ∃ s, sumF o n = s := ⟨_, rfl⟩
        obtain ⟨al, hal1⟩ : ∃ s, alB o W n = s := ⟨_, rfl⟩
        rw [hs] at hp3 hab
        rw [hal1] at hab
        have hsA : s ≤ A := hp3.2
        refine WpC.seq (WpC.ops tabOk (r := []) (by simp -implicitDefEqProofs [d20, d30, hn, hKl, hmx, w1, hs0, ha0, hs, hal1, hsA] <;> rfl) rfl ?_)
        refine WpC.seq ?_
        refine WpC.region ?_
        refine WpO.run tabOk 2 (by simp -implicitDefEqProofs [d20, d30, hn, hKl, hmx, w1, hs0, ha0, hs, hal1, hsA] <;> first | exact ⟨rfl, rfl⟩ | rfl) ?_
        refine WpO.data (by simp) rfl (by simp -implicitDefEqProofs [d20, d30, hn, hKl, hmx, w1, hs0, ha0, hs, hal1, hsA] <;> rfl) (by simp -implicitDefEqProofs [d20, d30, hn, hKl, hmx, w1, hs0, ha0, hs, hal1, hsA] <;> rfl) (by simp -implicitDefEqProofs [d20, d30, hn, hKl, hmx, w1, hs0, ha0, hs, hal1, hsA] <;> rfl) call_15 (by simp) (hpd) (by rfl) (by simp -implicitDefEqProofs [d20, d30, hn, hKl, hmx, w1, hs0, ha0, hs, hal1, hsA] <;> rfl) ?_
        refine WpO.run tabOk 5 (by simp -implicitDefEqProofs [d20, d30, hn, hKl, hmx, w1, hs0, ha0, hs, hal1, hsA] <;> first | exact ⟨rfl, rfl⟩ | rfl) ?_
        refine WpO.nil ?_
        refine WpC.seq ?_
        refine WpC.val 6 (.d (.bool (true))) ?_ ?_
        · refine WpC.region ?_
          refine WpO.run tabOk 4 (by simp -implicitDefEqProofs [d20, d30, hn, hKl, hmx, w1, hs0, ha0, hs, hal1, hsA] <;> first | exact ⟨rfl, rfl⟩ | rfl) ?_
          refine WpO.splitB 137 (by simp -implicitDefEqProofs [d20, d30, hn, hKl, hmx, w1, hs0, ha0, hs, hal1, hsA] <;> rfl) (by rfl) (fun g137 => ?_) (fun g137 => ?_)
          · try (exfalso; revert g137; simp; done)
            all_goals
              have g137' := g137; first | simp only [dT, dF] at g137' | try simp at g137'
              refine WpO.run tabOk 2 (by simp -implicitDefEqProofs [d20, d30, hn, hKl, hmx, w1, hs0, ha0, hs, hal1, hsA, g137] <;> first | exact ⟨rfl, rfl⟩ | rfl) ?_
              refine WpO.splitB 139 (by simp -implicitDefEqProofs [d20, d30, hn, hKl, hmx, w1, hs0, ha0, hs, hal1, hsA, g137] <;> rfl) (by rfl) (fun g139 => ?_) (fun g139 => ?_)
              · try (exfalso; revert g139; simp; done)
                all_goals
                  have g139' := g139; first | simp only [dT, dF] at g139' | try simp at g139'
                  refine WpO.run tabOk 9 (by simp -implicitDefEqProofs [d20, d30, hn, hKl, hmx, w1, hs0, ha0, hs, hal1, hsA, g137, g139] <;> first | exact ⟨rfl, rfl⟩ | rfl) ?_
                  refine WpO.splitB 148 (by simp -implicitDefEqProofs [d20, d30, hn, hKl, hmx, w1, hs0, ha0, hs, hal1, hsA, g137, g139] <;> rfl) (by rfl) (fun g148 => ?_) (fun g148 => ?_)
                  · try (exfalso; revert g148; simp; done)
                    all_goals
                      have g148' := g148; first | simp only [dT, dF] at g148' | try simp at g148'
                      refine WpO.data (by simp) rfl (by simp -implicitDefEqProofs [d20, d30, hn, hKl, hmx, w1, hs0, ha0, hs, hal1, hsA, g137, g139, g148] <;> rfl) (by simp -implicitDefEqProofs [d20, d30, hn, hKl, hmx, w1, hs0, ha0, hs, hal1, hsA, g137, g139, g148] <;> rfl) (by simp -implicitDefEqProofs [d20, d30, hn, hKl, hmx, w1, hs0, ha0, hs, hal1, hsA, g137, g139, g148] <;> rfl) call_10 (by simp) (awake15_ok) (by rfl) (by simp -implicitDefEqProofs [d20, d30, hn, hKl, hmx, w1, hs0, ha0, hs, hal1, hsA, g137, g139, g148] <;> rfl) ?_
                      refine WpO.run tabOk 2 (by simp -implicitDefEqProofs [d20, d30, hn, hKl, hmx, w1, hs0, ha0, hs, hal1, hsA, g137, g139, g148] <;> first | exact ⟨rfl, rfl⟩ | rfl) ?_
                      refine WpO.nil ?_
                      refine ⟨rfl, Gh.only 6 21 ?_ (by first | rfl | simp -implicitDefEqProofs [d20, d30, hn, hKl, hmx, w1, hs0, ha0, hs, hal1, hsA, g137, g139, g148]) (by rfl)⟩
                      simp -implicitDefEqProofs [d20, d30, hn, hKl, hmx, w1, hs0, ha0, hs, hal1, hsA, g137, g139, g148, g137', g139', g148']
                  · try (exfalso; revert g148; simp; done)
                    all_goals
                      have g148' := g148; first | simp only [dT, dF] at g148' | try simp at g148'
                      refine WpO.run tabOk 3 (by simp -implicitDefEqProofs [d20, d30, hn, hKl, hmx, w1, hs0, ha0, hs, hal1, hsA, g137, g139, g148] <;> first | exact ⟨rfl, rfl⟩ | rfl) ?_
                      refine WpO.nil ?_
                      refine ⟨rfl, Gh.only 6 21 ?_ (by first | rfl | simp -implicitDefEqProofs [d20, d30, hn, hKl, hmx, w1, hs0, ha0, hs, hal1, hsA, g137, g139, g148]) (by rfl)⟩
                      simp -implicitDefEqProofs [d20, d30, hn, hKl, hmx, w1, hs0, ha0, hs, hal1, hsA, g137, g139, g148, g137', g139', g148']
              · try (exfalso; revert g139; simp; done)
                all_goals
                  have g139' := g139; first | simp only [dT, dF] at g139' | try simp at g139'
                  have hsA2 : s = A := hab (by simpa using g139)
                  refine WpO.run tabOk 6 (by simp -implicitDefEqProofs [d20, d30, hn, hKl, hmx, w1, hs0, ha0, hs, hal1, hsA, g137, g139, hsA2] <;> first | exact ⟨rfl, rfl⟩ | rfl) ?_
                  refine WpO.splitB 145 (by simp -implicitDefEqProofs [d20, d30, hn, hKl, hmx, w1, hs0, ha0, hs, hal1, hsA, g137, g139, hsA2] <;> rfl) (by rfl) (fun g145 => ?_) (fun g145 => ?_)
                  · try (exfalso; revert g145; simp; done)
                    all_goals
                      have g145' := g145; first | simp only [dT, dF] at g145' | try simp at g145'
                      refine WpO.run tabOk 3 (by simp -implicitDefEqProofs [d20, d30, hn, hKl, hmx, w1, hs0, ha0, hs, hal1, hsA, g137, g139, hsA2, g145] <;> first | exact ⟨rfl, rfl⟩ | rfl) ?_
                      refine WpO.splitB 148 (by simp -implicitDefEqProofs [d20, d30, hn, hKl, hmx, w1, hs0, ha0, hs, hal1, hsA, g137, g139, hsA2, g145] <;> rfl) (by rfl) (fun g148 => ?_) (fun g148 => ?_)
                      · try (exfalso; revert g148; simp; done)
                        all_goals
                          have g148' := g148; first | simp only [dT, dF] at g148' | try simp at g148'
                          refine WpO.data (by simp) rfl (by simp -implicitDefEqProofs [d20, d30, hn, hKl, hmx, w1, hs0, ha0, hs, hal1, hsA, g137, g139, hsA2, g145, g148] <;> rfl) (by simp -implicitDefEqProofs [d20, d30, hn, hKl, hmx, w1, hs0, ha0, hs, hal1, hsA, g137, g139, hsA2, g145, g148] <;> rfl) (by simp -implicitDefEqProofs [d20, d30, hn, hKl, hmx, w1, hs0, ha0, hs, hal1, hsA, g137, g139, hsA2, g145, g148] <;> rfl) call_10 (by simp) (awake15_ok) (by rfl) (by simp -implicitDefEqProofs [d20, d30, hn, hKl, hmx, w1, hs0, ha0, hs, hal1, hsA, g137, g139, hsA2, g145, g148] <;> rfl) ?_
                          refine WpO.run tabOk 2 (by simp -implicitDefEqProofs [d20, d30, hn, hKl, hmx, w1, hs0, ha0, hs, hal1, hsA, g137, g139, hsA2, g145, g148] <;> first | exact ⟨rfl, rfl⟩ | rfl) ?_
                          refine WpO.nil ?_
                          refine ⟨rfl, Gh.only 6 22 ?_ (by first | rfl | simp -implicitDefEqProofs [d20, d30, hn, hKl, hmx, w1, hs0, ha0, hs, hal1, hsA, g137, g139, hsA2, g145, g148]) (by rfl)⟩
                          simp -implicitDefEqProofs [d20, d30, hn, hKl, hmx, w1, hs0, ha0, hs, hal1, hsA, g137, g139, hsA2, g145, g148, g137', g139', g145', g148']
                      · try (exfalso; revert g148; simp; done)
                        all_goals
                          have g148' := g148; first | simp only [dT, dF] at g148' | try simp at g148'
                          refine WpO.run tabOk 3 (by simp -implicitDefEqProofs [d20, d30, hn, hKl, hmx, w1, hs0, ha0, hs, hal1, hsA, g137, g139, hsA2, g145, g148] <;> first | exact ⟨rfl, rfl⟩ | rfl) ?_
                          refine WpO.nil ?_
                          refine ⟨rfl, Gh.only 6 22 ?_ (by first | rfl | simp -implicitDefEqProofs [d20, d30, hn, hKl, hmx, w1, hs0, ha0, hs, hal1, hsA, g137, g139, hsA2, g145, g148]) (by rfl)⟩
                          simp -implicitDefEqProofs [d20, d30, hn, hKl, hmx, w1, hs0, ha0, hs, hal1, hsA, g137, g139, hsA2, g145, g148, g137', g139', g145', g148']
                  · try (exfalso; revert g145; simp; done)
                    all_goals
                      have g145' := g145; first | simp only [dT, dF] at g145' | try simp at g145'
                      refine WpO.run tabOk 6 (by simp -implicitDefEqProofs [d20, d30, hn, hKl, hmx, w1, hs0, ha0, hs, hal1, hsA, g137, g139, hsA2, g145] <;> first | exact ⟨rfl, rfl⟩ | rfl) ?_
                      refine WpO.nil ?_
                      refine ⟨rfl, Gh.only 6 21 ?_ (by first | rfl | simp -implicitDefEqProofs [d20, d30, hn, hKl, hmx, w1, hs0, ha0, hs, hal1, hsA, g137, g139, hsA2, g145]) (by rfl)⟩
                      simp -implicitDefEqProofs [d20, d30, hn, hKl, hmx, w1, hs0, ha0, hs, hal1, hsA, g137, g139, hsA2, g145, g137', g139', g145']
          · try (exfalso; revert g137; simp; done)
            all_goals
              have g137' := g137; first | simp only [dT, dF] at g137' | try simp at g137'
              refine WpO.run tabOk 14 (by simp -implicitDefEqProofs [d20, d30, hn, hKl, hmx, w1, hs0, ha0, hs, hal1, hsA, g137] <;> first | exact ⟨rfl, rfl⟩ | rfl) ?_
              refine WpO.nil ?_
              refine ⟨rfl, Gh.only 6 19 ?_ (by first | rfl | simp -implicitDefEqProofs [d20, d30, hn, hKl, hmx, w1, hs0, ha0, hs, hal1, hsA, g137]) (by rfl)⟩
              simp -implicitDefEqProofs [d20, d30, hn, hKl, hmx, w1, hs0, ha0, hs, hal1, hsA, g137, g137']
        refine WpC.ret ?_
        try simp only [blockQ, seqQ]
        refine retD_i (by simp -implicitDefEqProofs [d20, d30, hn, hKl, hmx, w1, hs0, ha0, hs, hal1, hsA] <;> rfl) (by simp -implicitDefEqProofs [d20, d30, hn, hKl, hmx, w1, hs0, ha0, hs, hal1, hsA] <;> rfl) ?_
        simp -implicitDefEqProofs [d20, d30, hn, hKl, hmx, w1, hs0, ha0, hs, hal1, hsA]
section
variable {w : World}
theorem garnishFair_row {e0 e1 e2 : List D} {v0 v1 v2 : Value} {i0 i1 i2 : TI} (y0 : HasT tab 8 3 e0) (y1 : HasT tab 8 3 e1) (y2 : HasT tab 8 22 e2) (t0 : some i0 = tab 3) (t1 : some i1 = tab 3) (t2 : some i2 = tab 22)
    (z0 : DRel w (lt w) (elemD i0 e0) v0) (z1 : DRel w (lt w) (elemD i1 e1) v1) (z2 : DRel w (lt w) (elemD i2 e2) v2) :
    Calls Try.prog 5 #[v0, v1, v2] w fun e w' => e = .returned (.bool true) ∧ Below w.heap.size w w' := by
  rw [tab_3] at t0 t1; cases t0; cases t1
  rw [tab_22] at t2; cases t2
  obtain ⟨n, rfl, hn⟩ := has_num y0 tab_3
  obtain ⟨m, rfl, hm⟩ := has_num y1 tab_3
  obtain ⟨l, ho, hl, rfl⟩ := has_ords y2
  refine WpF.law (garnishFair_ok n m l (i64_in hn) (i64_in hm) (by simpa [maxLen] using hl) ho) (fun r S h => h.1) (vs := [v0, v1, v2]) ?_
  simp only [VRelL, VRel]
  exact ⟨v0, _, rfl, z0, v1, _, rfl, z1, v2, _, rfl, z2, rfl⟩
end
end Go.Proofs.Ytaobnhenjldjeaa.Pay
