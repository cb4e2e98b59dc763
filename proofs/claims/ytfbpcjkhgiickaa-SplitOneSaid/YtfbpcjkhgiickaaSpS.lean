/- Law SplitWhole. No statement of the seed is proved here. -/
import Derived.Test.YtfbpcjkhgiickaaSpR
import Derived.Test.YtfbpcjkhgiickaaPayR
namespace Go.Proofs.Ytfbpcjkhgiickaa.Pay
open Go Go.RowKit
set_option linter.unusedVariables false
set_option linter.unusedSimpArgs false
set_option linter.unusedSectionVars false

theorem sum_map_nat : ∀ (f : Nat → Nat) (n : Nat), ((List.range n).map fun i => (f i : Int)).sum = (sumN f n : Nat)
  | f, 0 => rfl
  | f, n + 1 => by
    rw [List.range_succ, List.map_append, List.sum_append, sum_map_nat f n, sumN_step]; simp
structure Whole (T : Int) (ws l : List Int) : Prop where
  T0 : 0 ≤ T
  len : l.length = ws.length
  pos : ∀ i (h : i < l.length), 0 ≤ l[i]
  zero : ∀ i (h : i < l.length) (h' : i < ws.length), ws[i] = 0 → l[i] = 0
  mono : ∀ i j (hi : i < l.length) (hj : j < l.length) (hi' : i < ws.length) (hj' : j < ws.length), ws[j] < ws[i] → l[j] ≤ l[i]
  sum : l.sum = T
theorem whole {T : Int} {ws : List Int} (h : spE T ws = 0) : Whole T ws (spS T ws) := by
  obtain ⟨t, s, w, ha⟩ := asked h
  have hl := spS_pt h ha
  have hn : (spS T ws).length = ws.length := by rw [hl]; simp
  have hat : ∀ i (hi : i < (spS T ws).length), (spS T ws)[i] = (ptN t s ws.length w i : Nat) := fun i hi => by simp [hl]
  have hwi : ∀ i (hi : i < ws.length), ws[i] = (w i : Int) := fun i hi => by rw [← ha.w_ i]; unfold spW; rw [List.getElem?_eq_getElem hi]; rfl
  refine ⟨by rw [ha.t_]; omega, hn, fun i hi => by rw [hat i hi]; omega, fun i hi hi' h0 => ?_, fun i j hi hj hi' hj' hlt => ?_, ?_⟩
  · rw [hat i hi, pt_zero (i := i) ha.s0 ha.sw hi' (by have := hwi i hi'; omega)]; rfl
  · rw [hat i hi, hat j hj]
    have := pt_mono (t := t) (s := s) (n := ws.length) (w := w) hi' hj' (by have := hwi i hi'; have := hwi j hj'; omega)
    omega
  · rw [hl, sum_map_nat, pt_sum ha.s0 ha.sw, ha.t_]

set_option maxHeartbeats 40000000 in
theorem splitWhole_ok (T : Int) (ws : List Int) (hT : in64 T) (hws : ∀ x ∈ ws, in64 x) (hl : ws.length ≤ 9223372036854775807) : Gives Try.prog 4 [.d (dI T), .d (.list 1 (ws.map dI))] (.d (.bool true)) := by
  refine Gives.enter tabOk Try.func4 rfl (by show 2 ≤ 105; decide) ?_
  simp only [Try.f4]
  refine WpC.seq (WpC.ops tabOk (r := []) (by simp -implicitDefEqProofs <;> rfl) rfl ?_)
  refine WpC.seq ?_
  refine WpC.seq (WpC.ops tabOk (r := []) (by simp -implicitDefEqProofs <;> rfl) rfl ?_)
  refine WpC.condD ((60 : Int) < ws.length) (by simp -implicitDefEqProofs) (fun d13 => ?_) (fun d13 => ?_)
  · refine WpC.seq ?_
    refine WpC.region ?_
    refine WpO.data (by simp) rfl (by simp -implicitDefEqProofs [d13] <;> rfl) (by simp -implicitDefEqProofs [d13] <;> rfl) (by simp -implicitDefEqProofs [d13] <;> rfl) call_8 (by simp) (awake4_ok) (by rfl) (by simp -implicitDefEqProofs [d13] <;> rfl) ?_
    refine WpO.run tabOk 1 (by simp -implicitDefEqProofs [d13] <;> first | exact ⟨rfl, rfl⟩ | rfl) ?_
    refine WpO.nil ?_
    refine WpC.ret ?_
    try simp only [blockQ, seqQ]
    refine retD_i (by simp -implicitDefEqProofs [d13] <;> rfl) (by simp -implicitDefEqProofs [d13] <;> rfl) ?_
    simp -implicitDefEqProofs [d13]
  · have hn : ws.length ≤ 60 := by omega
    have hsp := splitL_ok T ws hT hws (by omega)
    obtain ⟨L, hL⟩ : ∃ L, spS T ws = L := ⟨_, rfl⟩
    obtain ⟨e, he⟩ : ∃ e, spE T ws = e := ⟨_, rfl⟩
    have hno : e ≠ 0 → L = [] := fun h => by rw [← hL]; unfold spS; rw [he, if_neg h]
    have hyes : e = 0 → Whole T ws L := fun h => by rw [← hL]; exact whole (he.trans h)
    rw [hL, he] at hsp
    refine WpC.skip ?_
    refine WpC.seq ?_
    refine WpC.region ?_
    refine WpO.run tabOk 2 (by simp -implicitDefEqProofs [d13] <;> first | exact ⟨rfl, rfl⟩ | rfl) ?_
    refine WpO.data (by simp) rfl (by simp -implicitDefEqProofs [d13] <;> rfl) (by simp -implicitDefEqProofs [d13] <;> rfl) (by simp -implicitDefEqProofs [d13] <;> rfl) call_9 (by simp) (hsp) (by rfl) (by simp -implicitDefEqProofs [d13] <;> rfl) ?_
    refine WpO.run tabOk 5 (by simp -implicitDefEqProofs [d13] <;> first | exact ⟨rfl, rfl⟩ | rfl) ?_
    refine WpO.nil ?_
    refine WpC.seq ?_
    refine WpC.seq (WpC.ops tabOk (r := []) (by simp -implicitDefEqProofs [d13] <;> rfl) rfl ?_)
    refine WpC.condD (¬ e = 0) (by simp -implicitDefEqProofs [d13]) (fun d22 => ?_) (fun d22 => ?_)
    · have hLe := hno d22
      subst hLe
      refine WpC.seq ?_
      refine WpC.region ?_
      refine WpO.run tabOk 4 (by simp -implicitDefEqProofs [d13, d22] <;> first | exact ⟨rfl, rfl⟩ | rfl) ?_
      refine WpO.splitB 26 (by simp -implicitDefEqProofs [d13, d22] <;> rfl) (by rfl) (fun g26 => ?_) (fun g26 => ?_)
      · have g26' := g26; first | simp only [dT, dF] at g26' | try simp at g26'
        refine WpO.data (by simp) rfl (by simp -implicitDefEqProofs [d13, d22, g26] <;> rfl) (by simp -implicitDefEqProofs [d13, d22, g26] <;> rfl) (by simp -implicitDefEqProofs [d13, d22, g26] <;> rfl) call_8 (by simp) (awake4_ok) (by rfl) (by simp -implicitDefEqProofs [d13, d22, g26] <;> rfl) ?_
        refine WpO.run tabOk 2 (by simp -implicitDefEqProofs [d13, d22, g26] <;> first | exact ⟨rfl, rfl⟩ | rfl) ?_
        refine WpO.nil ?_
        refine WpC.ret ?_
        try simp only [blockQ, seqQ]
        refine retD_i (by simp -implicitDefEqProofs [d13, d22, g26] <;> rfl) (by simp -implicitDefEqProofs [d13, d22, g26] <;> rfl) ?_
        simp -implicitDefEqProofs [d13, d22, g26]
      · exact absurd g26 (by simp)
    · have he0 : e = 0 := Classical.not_not.1 d22
      obtain ⟨hT0, hlen, hpos, hzero, hmono, hsum⟩ := hyes he0
      have hsum0 : ∀ k, 0 ≤ (L.take k).sum ∧ (L.take k).sum ≤ T := fun k => by
        have h0 : ∀ x ∈ L, 0 ≤ x := fun x hx => by obtain ⟨i, hi, rfl⟩ := List.getElem_of_mem hx; exact hpos i hi
        have h1 := sum_take_le h0 k
        have h2 := sum_nonneg (l := L.take k) fun x hx => h0 x (List.mem_of_mem_take hx)
        omega
      unfold in64 at hT
      refine WpC.skip ?_
      refine WpC.seq ?_
      refine WpC.seq (WpC.ops tabOk (r := []) (by simp -implicitDefEqProofs [d13, d22, hlen] <;> rfl) rfl ?_)
      refine WpC.condF (by simp -implicitDefEqProofs [d13, d22, hlen] <;> rfl) ?_
      refine WpC.skip ?_
      refine WpC.seq (WpC.ops tabOk (r := []) (by simp -implicitDefEqProofs [d13, d22, hlen] <;> rfl) rfl ?_)
      refine WpC.seq ?_
      refine WpC.seq (WpC.ops tabOk (r := []) (by simp -implicitDefEqProofs [d13, d22, hlen] <;> rfl) rfl ?_)
      refine WpC.block ?_
      refine WpC.loopK [0, 1, 5, 34, 35] [7, 36] (ws.length) (() : Unit) (fun k _ => [(7, .d (dI (L.take k).sum)), (36, .d (.int .i64 k))]) (fun k _ => []) (fun k _ => True) (by simp -implicitDefEqProofs [d13, d22, hlen] <;> rfl) (Gh.cut' [7, 36, 0, 1, 5, 34, 35] 0 (by simp -implicitDefEqProofs [d13, d22, hlen]) (by simp -implicitDefEqProofs [d13, d22, hlen]) rfl (by simp) (by simp) (by simp)) (by simp) ?_
      rintro k ⟨⟩ hk hi
      simp only [List.cons_append, List.nil_append]
      refine WpC.seq (WpC.ops tabOk (r := []) (by simp -implicitDefEqProofs [d13, d22, hlen] <;> rfl) rfl ?_)
      refine WpC.seq (WpC.condD (k < ws.length) (by simp -implicitDefEqProofs [d13, d22, hlen] <;> omega) (fun hlt => ?_) (fun hge => ?_))
      · refine WpC.skip ?_
        have hkL : k < L.length := by omega
        have hst := sum_take hkL
        obtain ⟨x, hx⟩ : ∃ x, ws[k] = x := ⟨_, rfl⟩
        obtain ⟨y, hy⟩ : ∃ y, L[k] = y := ⟨_, rfl⟩
        have hy0 := hpos k hkL
        have hyz := hzero k hkL hlt
        have hs1 := hsum0 k
        have hs2 := hsum0 (k + 1)
        have hmk := fun j hj hj' => hmono k j hkL hj hlt hj'
        have hmk2 := fun j hj hj' => hmono j k hj hkL hj' hlt
        simp only [hx, hy] at hst hy0 hyz hmk hmk2
        obtain ⟨q, hq⟩ : ∃ q, (L.take k).sum = q := ⟨_, rfl⟩
        rw [hq] at hst hs1
        have hw1 : IntKind.i64.wrap (q + y) = q + y := wrapI (by omega) (by omega)
        have hkw : IntKind.i64.wrap ((k : Int) + 1) = k + 1 := wrapI (by omega) (by omega)
        refine WpC.seq ?_
        refine WpC.block ?_
        refine WpC.seq (WpC.ops tabOk (r := []) (by simp -implicitDefEqProofs [d13, d22, hlen, hlt, hkL, hx, hy, hq, hw1, hkw] <;> rfl) rfl ?_)
        refine WpC.seq (WpC.ops tabOk (r := []) (by simp -implicitDefEqProofs [d13, d22, hlen, hlt, hkL, hx, hy, hq, hw1, hkw] <;> rfl) rfl ?_)
        refine WpC.seq ?_
        refine WpC.seq ?_
        refine WpC.val 56 (.d (.bool (false))) ?_ ?_
        · refine WpC.region ?_
          refine WpO.run tabOk 3 (by simp -implicitDefEqProofs [d13, d22, hlen, hlt, hkL, hx, hy, hq, hw1, hkw] <;> first | exact ⟨rfl, rfl⟩ | rfl) ?_
          refine WpO.splitB 46 (by simp -implicitDefEqProofs [d13, d22, hlen, hlt, hkL, hx, hy, hq, hw1, hkw] <;> rfl) (by rfl) (fun g46 => ?_) (fun g46 => ?_)
          · try (exfalso; revert g46; simp; done)
            all_goals
              have g46' := g46; first | simp only [dT, dF] at g46' | try simp at g46'
              refine WpO.run tabOk 10 (by simp -implicitDefEqProofs [d13, d22, hlen, hlt, hkL, hx, hy, hq, hw1, hkw, g46] <;> first | exact ⟨rfl, rfl⟩ | rfl) ?_
              refine WpO.nil ?_
              refine ⟨rfl, Gh.only 56 14 ?_ (by first | rfl | simp -implicitDefEqProofs [d13, d22, hlen, hlt, hkL, hx, hy, hq, hw1, hkw, g46]) (by rfl)⟩
              simp -implicitDefEqProofs [d13, d22, hlen, hlt, hkL, hx, hy, hq, hw1, hkw, g46, g46'] <;> omega
          · try (exfalso; revert g46; simp; done)
            all_goals
              have g46' := g46; first | simp only [dT, dF] at g46' | try simp at g46'
              refine WpO.run tabOk 6 (by simp -implicitDefEqProofs [d13, d22, hlen, hlt, hkL, hx, hy, hq, hw1, hkw, g46] <;> first | exact ⟨rfl, rfl⟩ | rfl) ?_
              refine WpO.splitB 52 (by simp -implicitDefEqProofs [d13, d22, hlen, hlt, hkL, hx, hy, hq, hw1, hkw, g46] <;> rfl) (by rfl) (fun g52 => ?_) (fun g52 => ?_)
              · try (exfalso; revert g52; simp; done)
                all_goals
                  have g52' := g52; first | simp only [dT, dF] at g52' | try simp at g52'
                  refine WpO.run tabOk 4 (by simp -implicitDefEqProofs [d13, d22, hlen, hlt, hkL, hx, hy, hq, hw1, hkw, g46, g52] <;> first | exact ⟨rfl, rfl⟩ | rfl) ?_
                  refine WpO.nil ?_
                  refine ⟨rfl, Gh.only 56 15 ?_ (by first | rfl | simp -implicitDefEqProofs [d13, d22, hlen, hlt, hkL, hx, hy, hq, hw1, hkw, g46, g52]) (by rfl)⟩
                  simp -implicitDefEqProofs [d13, d22, hlen, hlt, hkL, hx, hy, hq, hw1, hkw, g46, g52, g46', g52'] <;> omega
              · try (exfalso; revert g52; simp; done)
                all_goals
                  have g52' := g52; first | simp only [dT, dF] at g52' | try simp at g52'
                  refine WpO.run tabOk 4 (by simp -implicitDefEqProofs [d13, d22, hlen, hlt, hkL, hx, hy, hq, hw1, hkw, g46, g52] <;> first | exact ⟨rfl, rfl⟩ | rfl) ?_
                  refine WpO.nil ?_
                  refine ⟨rfl, Gh.only 56 15 ?_ (by first | rfl | simp -implicitDefEqProofs [d13, d22, hlen, hlt, hkL, hx, hy, hq, hw1, hkw, g46, g52]) (by rfl)⟩
                  simp -implicitDefEqProofs [d13, d22, hlen, hlt, hkL, hx, hy, hq, hw1, hkw, g46, g52, g46', g52'] <;> omega
        refine WpC.condF (by simp -implicitDefEqProofs [d13, d22, hlen, hlt, hkL, hx, hy, hq, hw1, hkw] <;> rfl) ?_
        refine WpC.skip ?_
        obtain ⟨i, rfl⟩ : ∃ i, i = k := ⟨k, rfl⟩
        have hiW : i < ws.length := hlt
        refine WpC.seq (WpC.ops tabOk (r := []) (by simp -implicitDefEqProofs [d13, d22, hlen, hlt, hkL, hx, hy, hq, hw1, hkw, hiW] <;> rfl) rfl ?_)
        refine WpC.block ?_
        refine WpC.loopK [0, 1, 5, 7, 8, 9, 34, 35, 36, 57] [58] (i) (() : Unit) (fun k _ => [(58, .d (.int .i64 k))]) (fun k _ => []) (fun k _ => True) (by simp -implicitDefEqProofs [d13, d22, hlen, hlt, hkL, hx, hy, hq, hw1, hkw, hiW] <;> rfl) (Gh.cut' [58, 0, 1, 5, 7, 8, 9, 34, 35, 36, 57] 0 (by simp -implicitDefEqProofs [d13, d22, hlen, hlt, hkL, hx, hy, hq, hw1, hkw, hiW]) (by simp -implicitDefEqProofs [d13, d22, hlen, hlt, hkL, hx, hy, hq, hw1, hkw, hiW]) rfl (by simp) (by simp) (by simp)) (by simp) ?_
        rintro k ⟨⟩ hk hi
        simp only [List.cons_append, List.nil_append]
        refine WpC.seq (WpC.ops tabOk (r := []) (by simp -implicitDefEqProofs [d13, d22, hlen, hlt, hkL, hx, hy, hq, hw1, hkw, hiW] <;> rfl) rfl ?_)
        refine WpC.seq (WpC.condD (k < i) (by simp -implicitDefEqProofs [d13, d22, hlen, hlt, hkL, hx, hy, hq, hw1, hkw, hiW] <;> omega) (fun hlt => ?_) (fun hge => ?_))
        · refine WpC.skip ?_
          have hjL : k < L.length := by omega
          have hjW : k < ws.length := by omega
          obtain ⟨x2, hx2⟩ : ∃ x, ws[k] = x := ⟨_, rfl⟩
          obtain ⟨y2, hy2⟩ : ∃ y, L[k] = y := ⟨_, rfl⟩
          have hm1 := hmk k hjL hjW
          have hm2 := hmk2 k hjL hjW
          rw [hx2, hy2] at hm1 hm2
          have hjw : IntKind.i64.wrap ((k : Int) + 1) = k + 1 := wrapI (by omega) (by omega)
          refine WpC.seq ?_
          refine WpC.block ?_
          refine WpC.seq (WpC.ops tabOk (r := []) (by simp -implicitDefEqProofs [d13, d22, hlen, hlt, hkL, hx, hy, hq, hw1, hkw, hiW, hlt, hjL, hjW, hx2, hy2, hjw] <;> rfl) rfl ?_)
          refine WpC.seq ?_
          refine WpC.val 96 (.d (.bool (false))) ?_ ?_
          · refine WpC.drawn tabOk (by kernel_rfl) 0 (by simp) ?_
            refine DrO.run (fz := []) 3 (by simp -implicitDefEqProofs [d13, d22, hlen, hlt, hkL, hx, hy, hq, hw1, hkw, hiW, hlt, hjL, hjW, hx2, hy2, hjw] <;> first | exact ⟨rfl, rfl, rfl, rfl⟩ | rfl) ?_
            refine DrO.run (fz := []) 3 (by simp -implicitDefEqProofs [d13, d22, hlen, hlt, hkL, hx, hy, hq, hw1, hkw, hiW, hlt, hjL, hjW, hx2, hy2, hjw] <;> first | exact ⟨rfl, rfl, rfl, rfl⟩ | rfl) ?_
            refine DrO.run (fz := []) 3 (by simp -implicitDefEqProofs [d13, d22, hlen, hlt, hkL, hx, hy, hq, hw1, hkw, hiW, hlt, hjL, hjW, hx2, hy2, hjw] <;> first | exact ⟨rfl, rfl, rfl, rfl⟩ | rfl) ?_
            refine DrO.run (fz := []) 1 (by simp -implicitDefEqProofs [d13, d22, hlen, hlt, hkL, hx, hy, hq, hw1, hkw, hiW, hlt, hjL, hjW, hx2, hy2, hjw] <;> first | exact ⟨rfl, rfl, rfl, rfl⟩ | rfl) ?_
            refine DrO.splitB 70 (by simp -implicitDefEqProofs [d13, d22, hlen, hlt, hkL, hx, hy, hq, hw1, hkw, hiW, hlt, hjL, hjW, hx2, hy2, hjw] <;> rfl) (by rfl) (fun g70 => ?_) (fun g70 => ?_)
            · try (exfalso; revert g70; simp; done)
              all_goals
                have g70' := g70; first | simp only [dT, dF] at g70' | try simp at g70'
                refine DrO.run (fz := []) 3 (by simp -implicitDefEqProofs [d13, d22, hlen, hlt, hkL, hx, hy, hq, hw1, hkw, hiW, hlt, hjL, hjW, hx2, hy2, hjw, g70] <;> first | exact ⟨rfl, rfl, rfl, rfl⟩ | rfl) ?_
                refine DrO.run (fz := []) 3 (by simp -implicitDefEqProofs [d13, d22, hlen, hlt, hkL, hx, hy, hq, hw1, hkw, hiW, hlt, hjL, hjW, hx2, hy2, hjw, g70] <;> first | exact ⟨rfl, rfl, rfl, rfl⟩ | rfl) ?_
                refine DrO.run (fz := []) 2 (by simp -implicitDefEqProofs [d13, d22, hlen, hlt, hkL, hx, hy, hq, hw1, hkw, hiW, hlt, hjL, hjW, hx2, hy2, hjw, g70] <;> first | exact ⟨rfl, rfl, rfl, rfl⟩ | rfl) ?_
                refine DrO.splitB 78 (by simp -implicitDefEqProofs [d13, d22, hlen, hlt, hkL, hx, hy, hq, hw1, hkw, hiW, hlt, hjL, hjW, hx2, hy2, hjw, g70] <;> rfl) (by rfl) (fun g78 => ?_) (fun g78 => ?_)
                · try (exfalso; revert g78; simp; done)
                  all_goals
                    have g78' := g78; first | simp only [dT, dF] at g78' | try simp at g78'
                    refine DrO.run (fz := []) 3 (by simp -implicitDefEqProofs [d13, d22, hlen, hlt, hkL, hx, hy, hq, hw1, hkw, hiW, hlt, hjL, hjW, hx2, hy2, hjw, g70, g78] <;> first | exact ⟨rfl, rfl, rfl, rfl⟩ | rfl) ?_
                    refine DrO.run (fz := []) 3 (by simp -implicitDefEqProofs [d13, d22, hlen, hlt, hkL, hx, hy, hq, hw1, hkw, hiW, hlt, hjL, hjW, hx2, hy2, hjw, g70, g78] <;> first | exact ⟨rfl, rfl, rfl, rfl⟩ | rfl) ?_
                    refine DrO.run (fz := []) 3 (by simp -implicitDefEqProofs [d13, d22, hlen, hlt, hkL, hx, hy, hq, hw1, hkw, hiW, hlt, hjL, hjW, hx2, hy2, hjw, g70, g78] <;> first | exact ⟨rfl, rfl, rfl, rfl⟩ | rfl) ?_
                    refine DrO.run (fz := []) 3 (by simp -implicitDefEqProofs [d13, d22, hlen, hlt, hkL, hx, hy, hq, hw1, hkw, hiW, hlt, hjL, hjW, hx2, hy2, hjw, g70, g78] <;> first | exact ⟨rfl, rfl, rfl, rfl⟩ | rfl) ?_
                    refine DrO.run (fz := []) 3 (by simp -implicitDefEqProofs [d13, d22, hlen, hlt, hkL, hx, hy, hq, hw1, hkw, hiW, hlt, hjL, hjW, hx2, hy2, hjw, g70, g78] <;> first | exact ⟨rfl, rfl, rfl, rfl⟩ | rfl) ?_
                    refine DrO.run (fz := []) 3 (by simp -implicitDefEqProofs [d13, d22, hlen, hlt, hkL, hx, hy, hq, hw1, hkw, hiW, hlt, hjL, hjW, hx2, hy2, hjw, g70, g78] <;> first | exact ⟨rfl, rfl, rfl, rfl⟩ | rfl) ?_
                    refine DrO.nil ⟨by kernel_rfl, ?_⟩
                    refine ⟨rfl, Gh.only 96 36 ?_ (by first | rfl | simp -implicitDefEqProofs [d13, d22, hlen, hlt, hkL, hx, hy, hq, hw1, hkw, hiW, hlt, hjL, hjW, hx2, hy2, hjw, g70, g78]) (by rfl)⟩
                    simp -implicitDefEqProofs [d13, d22, hlen, hlt, hkL, hx, hy, hq, hw1, hkw, hiW, hlt, hjL, hjW, hx2, hy2, hjw, g70, g78, g70', g78'] <;> omega
                · try (exfalso; revert g78; simp; done)
                  all_goals
                    have g78' := g78; first | simp only [dT, dF] at g78' | try simp at g78'
                    refine DrO.run (fz := []) 3 (by simp -implicitDefEqProofs [d13, d22, hlen, hlt, hkL, hx, hy, hq, hw1, hkw, hiW, hlt, hjL, hjW, hx2, hy2, hjw, g70, g78] <;> first | exact ⟨rfl, rfl, rfl, rfl⟩ | rfl) ?_
                    refine DrO.run (fz := []) 3 (by simp -implicitDefEqProofs [d13, d22, hlen, hlt, hkL, hx, hy, hq, hw1, hkw, hiW, hlt, hjL, hjW, hx2, hy2, hjw, g70, g78] <;> first | exact ⟨rfl, rfl, rfl, rfl⟩ | rfl) ?_
                    refine DrO.run (fz := []) 3 (by simp -implicitDefEqProofs [d13, d22, hlen, hlt, hkL, hx, hy, hq, hw1, hkw, hiW, hlt, hjL, hjW, hx2, hy2, hjw, g70, g78] <;> first | exact ⟨rfl, rfl, rfl, rfl⟩ | rfl) ?_
                    refine DrO.run (fz := []) 1 (by simp -implicitDefEqProofs [d13, d22, hlen, hlt, hkL, hx, hy, hq, hw1, hkw, hiW, hlt, hjL, hjW, hx2, hy2, hjw, g70, g78] <;> first | exact ⟨rfl, rfl, rfl, rfl⟩ | rfl) ?_
                    refine DrO.splitB 88 (by simp -implicitDefEqProofs [d13, d22, hlen, hlt, hkL, hx, hy, hq, hw1, hkw, hiW, hlt, hjL, hjW, hx2, hy2, hjw, g70, g78] <;> rfl) (by rfl) (fun g88 => ?_) (fun g88 => ?_)
                    · try (exfalso; revert g88; simp; done)
                      all_goals
                        have g88' := g88; first | simp only [dT, dF] at g88' | try simp at g88'
                        refine DrO.run (fz := []) 3 (by simp -implicitDefEqProofs [d13, d22, hlen, hlt, hkL, hx, hy, hq, hw1, hkw, hiW, hlt, hjL, hjW, hx2, hy2, hjw, g70, g78, g88] <;> first | exact ⟨rfl, rfl, rfl, rfl⟩ | rfl) ?_
                        refine DrO.run (fz := []) 3 (by simp -implicitDefEqProofs [d13, d22, hlen, hlt, hkL, hx, hy, hq, hw1, hkw, hiW, hlt, hjL, hjW, hx2, hy2, hjw, g70, g78, g88] <;> first | exact ⟨rfl, rfl, rfl, rfl⟩ | rfl) ?_
                        refine DrO.run (fz := []) 2 (by simp -implicitDefEqProofs [d13, d22, hlen, hlt, hkL, hx, hy, hq, hw1, hkw, hiW, hlt, hjL, hjW, hx2, hy2, hjw, g70, g78, g88] <;> first | exact ⟨rfl, rfl, rfl, rfl⟩ | rfl) ?_
                        refine DrO.nil ⟨by kernel_rfl, ?_⟩
                        refine ⟨rfl, Gh.only 96 36 ?_ (by first | rfl | simp -implicitDefEqProofs [d13, d22, hlen, hlt, hkL, hx, hy, hq, hw1, hkw, hiW, hlt, hjL, hjW, hx2, hy2, hjw, g70, g78, g88]) (by rfl)⟩
                        simp -implicitDefEqProofs [d13, d22, hlen, hlt, hkL, hx, hy, hq, hw1, hkw, hiW, hlt, hjL, hjW, hx2, hy2, hjw, g70, g78, g88, g70', g78', g88'] <;> omega
                    · try (exfalso; revert g88; simp; done)
                      all_goals
                        have g88' := g88; first | simp only [dT, dF] at g88' | try simp at g88'
                        refine DrO.run (fz := []) 3 (by simp -implicitDefEqProofs [d13, d22, hlen, hlt, hkL, hx, hy, hq, hw1, hkw, hiW, hlt, hjL, hjW, hx2, hy2, hjw, g70, g78, g88] <;> first | exact ⟨rfl, rfl, rfl, rfl⟩ | rfl) ?_
                        refine DrO.run (fz := []) 3 (by simp -implicitDefEqProofs [d13, d22, hlen, hlt, hkL, hx, hy, hq, hw1, hkw, hiW, hlt, hjL, hjW, hx2, hy2, hjw, g70, g78, g88] <;> first | exact ⟨rfl, rfl, rfl, rfl⟩ | rfl) ?_
                        refine DrO.run (fz := []) 2 (by simp -implicitDefEqProofs [d13, d22, hlen, hlt, hkL, hx, hy, hq, hw1, hkw, hiW, hlt, hjL, hjW, hx2, hy2, hjw, g70, g78, g88] <;> first | exact ⟨rfl, rfl, rfl, rfl⟩ | rfl) ?_
                        refine DrO.nil ⟨by kernel_rfl, ?_⟩
                        refine ⟨rfl, Gh.only 96 36 ?_ (by first | rfl | simp -implicitDefEqProofs [d13, d22, hlen, hlt, hkL, hx, hy, hq, hw1, hkw, hiW, hlt, hjL, hjW, hx2, hy2, hjw, g70, g78, g88]) (by rfl)⟩
                        simp -implicitDefEqProofs [d13, d22, hlen, hlt, hkL, hx, hy, hq, hw1, hkw, hiW, hlt, hjL, hjW, hx2, hy2, hjw, g70, g78, g88, g70', g78', g88'] <;> omega
            · try (exfalso; revert g70; simp; done)
              all_goals
                have g70' := g70; first | simp only [dT, dF] at g70' | try simp at g70'
                refine DrO.run (fz := []) 3 (by simp -implicitDefEqProofs [d13, d22, hlen, hlt, hkL, hx, hy, hq, hw1, hkw, hiW, hlt, hjL, hjW, hx2, hy2, hjw, g70] <;> first | exact ⟨rfl, rfl, rfl, rfl⟩ | rfl) ?_
                refine DrO.run (fz := []) 3 (by simp -implicitDefEqProofs [d13, d22, hlen, hlt, hkL, hx, hy, hq, hw1, hkw, hiW, hlt, hjL, hjW, hx2, hy2, hjw, g70] <;> first | exact ⟨rfl, rfl, rfl, rfl⟩ | rfl) ?_
                refine DrO.run (fz := []) 3 (by simp -implicitDefEqProofs [d13, d22, hlen, hlt, hkL, hx, hy, hq, hw1, hkw, hiW, hlt, hjL, hjW, hx2, hy2, hjw, g70] <;> first | exact ⟨rfl, rfl, rfl, rfl⟩ | rfl) ?_
                refine DrO.run (fz := []) 3 (by simp -implicitDefEqProofs [d13, d22, hlen, hlt, hkL, hx, hy, hq, hw1, hkw, hiW, hlt, hjL, hjW, hx2, hy2, hjw, g70] <;> first | exact ⟨rfl, rfl, rfl, rfl⟩ | rfl) ?_
                refine DrO.run (fz := []) 3 (by simp -implicitDefEqProofs [d13, d22, hlen, hlt, hkL, hx, hy, hq, hw1, hkw, hiW, hlt, hjL, hjW, hx2, hy2, hjw, g70] <;> first | exact ⟨rfl, rfl, rfl, rfl⟩ | rfl) ?_
                refine DrO.run (fz := []) 3 (by simp -implicitDefEqProofs [d13, d22, hlen, hlt, hkL, hx, hy, hq, hw1, hkw, hiW, hlt, hjL, hjW, hx2, hy2, hjw, g70] <;> first | exact ⟨rfl, rfl, rfl, rfl⟩ | rfl) ?_
                refine DrO.splitB 88 (by simp -implicitDefEqProofs [d13, d22, hlen, hlt, hkL, hx, hy, hq, hw1, hkw, hiW, hlt, hjL, hjW, hx2, hy2, hjw, g70] <;> rfl) (by rfl) (fun g88 => ?_) (fun g88 => ?_)
                · try (exfalso; revert g88; simp; done)
                  all_goals
                    have g88' := g88; first | simp only [dT, dF] at g88' | try simp at g88'
                    refine DrO.run (fz := []) 3 (by simp -implicitDefEqProofs [d13, d22, hlen, hlt, hkL, hx, hy, hq, hw1, hkw, hiW, hlt, hjL, hjW, hx2, hy2, hjw, g70, g88] <;> first | exact ⟨rfl, rfl, rfl, rfl⟩ | rfl) ?_
                    refine DrO.run (fz := []) 3 (by simp -implicitDefEqProofs [d13, d22, hlen, hlt, hkL, hx, hy, hq, hw1, hkw, hiW, hlt, hjL, hjW, hx2, hy2, hjw, g70, g88] <;> first | exact ⟨rfl, rfl, rfl, rfl⟩ | rfl) ?_
                    refine DrO.run (fz := []) 2 (by simp -implicitDefEqProofs [d13, d22, hlen, hlt, hkL, hx, hy, hq, hw1, hkw, hiW, hlt, hjL, hjW, hx2, hy2, hjw, g70, g88] <;> first | exact ⟨rfl, rfl, rfl, rfl⟩ | rfl) ?_
                    refine DrO.nil ⟨by kernel_rfl, ?_⟩
                    refine ⟨rfl, Gh.only 96 36 ?_ (by first | rfl | simp -implicitDefEqProofs [d13, d22, hlen, hlt, hkL, hx, hy, hq, hw1, hkw, hiW, hlt, hjL, hjW, hx2, hy2, hjw, g70, g88]) (by rfl)⟩
                    simp -implicitDefEqProofs [d13, d22, hlen, hlt, hkL, hx, hy, hq, hw1, hkw, hiW, hlt, hjL, hjW, hx2, hy2, hjw, g70, g88, g70', g88'] <;> omega
                · try (exfalso; revert g88; simp; done)
                  all_goals
                    have g88' := g88; first | simp only [dT, dF] at g88' | try simp at g88'
                    refine DrO.run (fz := []) 3 (by simp -implicitDefEqProofs [d13, d22, hlen, hlt, hkL, hx, hy, hq, hw1, hkw, hiW, hlt, hjL, hjW, hx2, hy2, hjw, g70, g88] <;> first | exact ⟨rfl, rfl, rfl, rfl⟩ | rfl) ?_
                    refine DrO.run (fz := []) 3 (by simp -implicitDefEqProofs [d13, d22, hlen, hlt, hkL, hx, hy, hq, hw1, hkw, hiW, hlt, hjL, hjW, hx2, hy2, hjw, g70, g88] <;> first | exact ⟨rfl, rfl, rfl, rfl⟩ | rfl) ?_
                    refine DrO.run (fz := []) 2 (by simp -implicitDefEqProofs [d13, d22, hlen, hlt, hkL, hx, hy, hq, hw1, hkw, hiW, hlt, hjL, hjW, hx2, hy2, hjw, g70, g88] <;> first | exact ⟨rfl, rfl, rfl, rfl⟩ | rfl) ?_
                    refine DrO.nil ⟨by kernel_rfl, ?_⟩
                    refine ⟨rfl, Gh.only 96 36 ?_ (by first | rfl | simp -implicitDefEqProofs [d13, d22, hlen, hlt, hkL, hx, hy, hq, hw1, hkw, hiW, hlt, hjL, hjW, hx2, hy2, hjw, g70, g88]) (by rfl)⟩
                    simp -implicitDefEqProofs [d13, d22, hlen, hlt, hkL, hx, hy, hq, hw1, hkw, hiW, hlt, hjL, hjW, hx2, hy2, hjw, g70, g88, g70', g88'] <;> omega
          refine WpC.condF (by simp -implicitDefEqProofs [d13, d22, hlen, hlt, hkL, hx, hy, hq, hw1, hkw, hiW, hlt, hjL, hjW, hx2, hy2, hjw] <;> rfl) ?_
          refine WpC.skip ?_
          refine WpC.ops tabOk (r := []) (by simp -implicitDefEqProofs [d13, d22, hlen, hlt, hkL, hx, hy, hq, hw1, hkw, hiW, hlt, hjL, hjW, hx2, hy2, hjw] <;> rfl) rfl ?_
          exact ⟨hlt, (), trivial, Gh.cut' [58, 0, 1, 5, 7, 8, 9, 34, 35, 36, 57] 0 (by simp -implicitDefEqProofs [d13, d22, hlen, hlt, hkL, hx, hy, hq, hw1, hkw, hiW, hlt, hjL, hjW, hx2, hy2, hjw]) (by simp) rfl (by simp) (by simp) (by simp)⟩
        · refine WpC.exit ?_
          refine WpC.ops tabOk (r := []) (by simp -implicitDefEqProofs [d13, d22, hlen, hlt, hkL, hx, hy, hq, hw1, hkw, hiW] <;> rfl) rfl ?_
          exact ⟨hlt, (), trivial, Gh.cut' [7, 36, 0, 1, 5, 34, 35] 0 (by simp -implicitDefEqProofs [d13, d22, hlen, hlt, hkL, hx, hy, hq, hw1, hkw, hiW, hst]) (by simp) rfl (by simp) (by simp) (by simp)⟩
      · refine WpC.exit ?_
        have hkn : k = ws.length := by omega
        subst hkn
        have hfs : (L.take ws.length).sum = T := by rw [← hlen, List.take_of_length_le (Nat.le_refl _), hsum]
        refine WpC.seq ?_
        refine WpC.val 4 (.d (.bool (true))) ?_ ?_
        · refine WpC.region ?_
          refine WpO.run tabOk 4 (by simp -implicitDefEqProofs [d13, d22, hlen, hfs, hsum] <;> first | exact ⟨rfl, rfl⟩ | rfl) ?_
          refine WpO.splitB 102 (by simp -implicitDefEqProofs [d13, d22, hlen, hfs, hsum] <;> rfl) (by rfl) (fun g102 => ?_) (fun g102 => ?_)
          · try (exfalso; revert g102; simp; done)
            all_goals
              have g102' := g102; first | simp only [dT, dF] at g102' | try simp at g102'
              refine WpO.data (by simp) rfl (by simp -implicitDefEqProofs [d13, d22, hlen, hfs, hsum, g102] <;> rfl) (by simp -implicitDefEqProofs [d13, d22, hlen, hfs, hsum, g102] <;> rfl) (by simp -implicitDefEqProofs [d13, d22, hlen, hfs, hsum, g102] <;> rfl) call_8 (by simp) (awake4_ok) (by rfl) (by simp -implicitDefEqProofs [d13, d22, hlen, hfs, hsum, g102] <;> rfl) ?_
              refine WpO.run tabOk 2 (by simp -implicitDefEqProofs [d13, d22, hlen, hfs, hsum, g102] <;> first | exact ⟨rfl, rfl⟩ | rfl) ?_
              refine WpO.nil ?_
              refine ⟨rfl, Gh.only 4 8 ?_ (by first | rfl | simp -implicitDefEqProofs [d13, d22, hlen, hfs, hsum, g102]) (by rfl)⟩
              simp -implicitDefEqProofs [d13, d22, hlen, hfs, hsum, g102, g102']
          · try (exfalso; revert g102; simp; done)
            all_goals
              have g102' := g102; first | simp only [dT, dF] at g102' | try simp at g102'
              refine WpO.run tabOk 3 (by simp -implicitDefEqProofs [d13, d22, hlen, hfs, hsum, g102] <;> first | exact ⟨rfl, rfl⟩ | rfl) ?_
              refine WpO.nil ?_
              refine ⟨rfl, Gh.only 4 8 ?_ (by first | rfl | simp -implicitDefEqProofs [d13, d22, hlen, hfs, hsum, g102]) (by rfl)⟩
              simp -implicitDefEqProofs [d13, d22, hlen, hfs, hsum, g102, g102']
        refine WpC.ret ?_
        try simp only [blockQ, seqQ]
        refine retD_i (by simp -implicitDefEqProofs [d13, d22, hlen, hfs, hsum] <;> rfl) (by simp -implicitDefEqProofs [d13, d22, hlen, hfs, hsum] <;> rfl) ?_
        simp -implicitDefEqProofs [d13, d22, hlen, hfs, hsum]
theorem has_ints {g t u b1 b2 : Nat} {k : IntKind} {z : List D} {ds : List D} (h : HasT tab (g + 2) t ds) (ht : tab t = some ⟨.slice u, b1, b2, z⟩) {c1 c2 : Nat} {z2 : List D} (hu : tab u = some ⟨.int k, c1, c2, z2⟩) (hag : TI.ag ⟨.int k, c1, c2, z2⟩ = false := by rfl) :
    ∃ l : List Int, (∀ n ∈ l, k.min ≤ n ∧ n ≤ k.max) ∧ l.length ≤ maxLen ∧ ds = [.list c1 (l.map (.int k))] := by
  unfold HasT at h
  rw [ht] at h
  simp only [hu] at h
  obtain ⟨xs, rfl, hl, hx⟩ := h
  have key : ∀ {xs : List D}, (∀ x ∈ xs, ∃ n : Int, (k.min ≤ n ∧ n ≤ k.max) ∧ x = .int k n) → ∃ l : List Int, xs = l.map (.int k) ∧ ∀ n ∈ l, k.min ≤ n ∧ n ≤ k.max := by
    intro xs
    induction xs with
    | nil => intro _; exact ⟨[], rfl, by simp⟩
    | cons x xs ih =>
      intro h
      obtain ⟨n, h1, rfl⟩ := h x (by simp)
      obtain ⟨l, rfl, h2⟩ := ih fun y hy => h y (by simp [hy])
      exact ⟨n :: l, rfl, by simpa using ⟨h1, h2⟩⟩
  obtain ⟨l, rfl, h2⟩ := key fun x hx' => by
    obtain ⟨ys, h1, rfl⟩ := hx x hx'
    unfold HasT at h1
    rw [hu] at h1
    obtain ⟨n, rfl, h3, h4⟩ := h1
    refine ⟨n, ⟨h3, h4⟩, ?_⟩
    simp [elemD, hag]
  exact ⟨l, h2, by simpa using hl, rfl⟩
theorem has_num {g t : Nat} {k : IntKind} {ds : List D} {a b : Nat} {z : List D} (h : HasT tab (g + 1) t ds) (ht : tab t = some ⟨.int k, a, b, z⟩) : ∃ n, ds = [.int k n] ∧ k.min ≤ n ∧ n ≤ k.max := by
  unfold HasT at h
  rw [ht] at h
  exact h
theorem i64_in {n : Int} (h : IntKind.i64.min ≤ n ∧ n ≤ IntKind.i64.max) : in64 n := h
section
variable {w : World}
theorem splitWhole_row {e0 e1 : List D} {v0 v1 : Value} {i0 i1 : TI} (y0 : HasT tab 8 3 e0) (y1 : HasT tab 8 22 e1) (t0 : some i0 = tab 3) (t1 : some i1 = tab 22)
    (z0 : DRel w (lt w) (elemD i0 e0) v0) (z1 : DRel w (lt w) (elemD i1 e1) v1) :
    Calls Try.prog 4 #[v0, v1] w fun e w' => e = .returned (.bool true) ∧ Below w.heap.size w w' := by
  rw [tab_3] at t0; cases t0
  rw [tab_22] at t1; cases t1
  obtain ⟨n, rfl, hn⟩ := has_num y0 tab_3
  obtain ⟨ws, hg, hl, rfl⟩ := has_ints y1 tab_22 tab_3
  refine WpF.law (splitWhole_ok n ws (i64_in hn) (fun x hx => i64_in (hg x hx)) (by simpa [maxLen] using hl)) (fun r S h => h.1) (vs := [v0, v1]) ?_
  simp only [VRelL, VRel]
  exact ⟨v0, _, rfl, z0, v1, _, rfl, z1, rfl⟩
end
end Go.Proofs.Ytfbpcjkhgiickaa.Pay
