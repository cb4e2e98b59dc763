/- Law GarnishAll. No statement of the seed is proved here. -/
import Derived.Test.YtaobnhenjldjeaaGaP
namespace Go.Proofs.Ytaobnhenjldjeaa.Pay
open Go Go.RowKit
set_option linter.unusedVariables false
set_option linter.unusedSimpArgs false
set_option linter.unusedSectionVars false

/-- Claims and balances cut at b. -/
def capO (b : Int) (o : Ord) : Ord := ⟨o.cred, o.pri, max o.claim 0 % b, max o.bal 0 % b⟩
theorem capO_b {b : Int} (hb : 0 < b) (o : Ord) : 0 ≤ (capO b o).claim ∧ (capO b o).claim < b ∧ 0 ≤ (capO b o).bal ∧ (capO b o).bal < b :=
  ⟨Int.emod_nonneg _ (by omega), Int.emod_lt_of_pos _ hb, Int.emod_nonneg _ (by omega), Int.emod_lt_of_pos _ hb⟩
theorem chk_zero {net prot : Int} {l : List Ord} (h8 : l.length ≤ 8) (h1 : 0 ≤ prot ∧ prot ≤ 1125899906842624) (h2 : -1125899906842624 ≤ net ∧ net ≤ 1125899906842624) (h : ∀ o ∈ l, 0 ≤ o.claim ∧ o.claim ≤ 1125899906842624 ∧ 0 ≤ o.bal ∧ o.bal ≤ 1125899906842624) : chkE net prot l = 0 := by
  have a1 : (l.any fun x => decide (x.claim < 0 ∨ x.bal < 0)) = false := by
    rw [List.any_eq_false]
    intro x hx
    have := h x hx
    simp; omega
  have a2 : (l.any fun x => decide (1125899906842624 < x.claim ∨ 1125899906842624 < x.bal)) = false := by
    rw [List.any_eq_false]
    intro x hx
    have := h x hx
    simp; omega
  unfold chkE
  rw [a1, a2, if_neg (by omega), if_neg (by simp; omega), if_neg (by simp; omega)]
theorem wantF_at {l : List Ord} {i : Nat} (h : i < l.length) : wantF l i = min l[i].claim l[i].bal := by unfold wantF; rw [List.getElem?_eq_getElem h]; rfl
theorem priF_at {l : List Ord} {i : Nat} (h : i < l.length) : priF l i = l[i].pri := by unfold priF; rw [List.getElem?_eq_getElem h]; rfl

set_option maxHeartbeats 40000000 in
theorem garnishAll_ok (l : List Ord) (pr : Int) (hp : 0 ≤ pr ∧ pr ≤ 4294967295) (hl : l.length ≤ 9223372036854775807) (ho : ∀ o ∈ l, o.ok) : Gives Try.prog 7 [.d (encOs l), .d (.int .u32 pr)] (.d (.bool true)) := by
  have e1 : IntKind.i64.wrap pr = pr := wrapI (by omega) (by omega)
  obtain ⟨f, hf⟩ : ∃ f, l.map (capO 1099511627776) = f := ⟨_, rfl⟩
  have hfl : f.length = l.length := by rw [← hf]; simp
  have hfi : ∀ i (h : i < l.length), f[i]'(by omega) = capO 1099511627776 l[i] := fun i h => by simp [← hf]
  obtain ⟨F, hF⟩ : ∃ F : Nat → List D, F = fun k => (f.take k).map Ord.enc := ⟨_, rfl⟩
  have F0 : F 0 = [] := by rw [hF]; rfl
  have FS : ∀ k (h : k < f.length), F (k + 1) = F k ++ [f[k].enc] := fun k h => by rw [hF]; simp only [List.take_add_one, List.getElem?_eq_getElem h, List.map_append]; rfl
  have FL : ∀ k, k ≤ f.length → (F k).length = k := fun k h => by rw [hF]; simp; omega
  have FN : F f.length = f.map Ord.enc := by rw [hF]; simp only [List.take_of_length_le (Nat.le_refl _)]
  clear hF
  refine Gives.enter tabOk Try.func7 rfl (by show 2 ≤ 113; decide) ?_
  simp only [Try.f7]
  refine WpC.seq (WpC.ops tabOk (r := []) (by simp -implicitDefEqProofs [e1, F0] <;> rfl) rfl ?_)
  refine WpC.seq ?_
  refine WpC.seq (WpC.ops tabOk (r := []) (by simp -implicitDefEqProofs [e1, F0] <;> rfl) rfl ?_)
  refine WpC.condD ((8 : Int) < l.length) (by simp -implicitDefEqProofs [e1, F0]) (fun d17 => ?_) (fun d17 => ?_)
  · refine WpC.seq ?_
    refine WpC.region ?_
    refine WpO.data (by simp) rfl (by simp -implicitDefEqProofs [e1, F0, d17] <;> rfl) (by simp -implicitDefEqProofs [e1, F0, d17] <;> rfl) (by simp -implicitDefEqProofs [e1, F0, d17] <;> rfl) call_10 (by simp) (awake15_ok) (by rfl) (by simp -implicitDefEqProofs [e1, F0, d17] <;> rfl) ?_
    refine WpO.run tabOk 1 (by simp -implicitDefEqProofs [e1, F0, d17] <;> first | exact ⟨rfl, rfl⟩ | rfl) ?_
    refine WpO.nil ?_
    refine WpC.ret ?_
    try simp only [blockQ, seqQ]
    refine retD_i (by simp -implicitDefEqProofs [e1, F0, d17] <;> rfl) (by simp -implicitDefEqProofs [e1, F0, d17] <;> rfl) ?_
    simp -implicitDefEqProofs [e1, F0, d17]
  · have hl8 : l.length ≤ 8 := by omega
    have hfb : ∀ o ∈ f, 0 ≤ o.claim ∧ o.claim < 1099511627776 ∧ 0 ≤ o.bal ∧ o.bal < 1099511627776 := fun o hx => by
      rw [← hf] at hx
      obtain ⟨y, _, rfl⟩ := List.mem_map.1 hx
      exact capO_b (by decide) y
    have hwb : ∀ i, i < f.length → 0 ≤ wantF f i ∧ wantF f i ≤ 1099511627776 := fun i h => by
      rw [wantF_at h]
      have := hfb _ (List.getElem_mem h)
      omega
    have hSb : ∀ k, k ≤ f.length → 0 ≤ sumF (wantF f) k ∧ sumF (wantF f) k ≤ 8 * 1099511627776 := fun k h => by
      have h1 := sumF_pos (f := wantF f) (n := k) fun i hi => (hwb i (by omega)).1
      have h2 := sumF_big (b := 1099511627776) (by decide) (f := wantF f) (n := k) fun i hi => (hwb i (by omega)).2
      omega
    have hs0 : sumF (wantF f) 0 = 0 := rfl
    refine WpC.skip ?_
    refine WpC.seq (WpC.ops tabOk (r := []) (by simp -implicitDefEqProofs [e1, F0, d17, hs0] <;> rfl) rfl ?_)
    refine WpC.seq (WpC.ops tabOk (r := []) (by simp -implicitDefEqProofs [e1, F0, d17, hs0] <;> rfl) rfl ?_)
    refine WpC.seq ?_
    refine WpC.gh (Gh.nilArr 35 4 (t := 6) (by simp) (by simp)) ?_
    refine WpC.seq (WpC.ops tabOk (r := []) (by simp -implicitDefEqProofs [e1, F0, d17, hs0] <;> rfl) rfl ?_)
    refine WpC.block ?_
    refine WpC.loopK [1, 19, 20] [5, 6, 21] (l.length) (() : Unit) (fun k _ => [(5, .d (dI (sumF (wantF f) k))), (6, .sl 0 k), (21, .d (.int .i64 k))]) (fun k _ => [.arr 35 4 (F k)]) (fun k _ => True) (by simp -implicitDefEqProofs [e1, F0, d17, hs0] <;> rfl) (Gh.cut' [5, 6, 21, 1, 19, 20] 1 (by simp -implicitDefEqProofs [e1, F0, d17, hs0]) (by simp -implicitDefEqProofs [e1, F0, d17, hs0]) rfl (by simp) (by simp) (by simp)) (by simp) ?_
    rintro k ⟨⟩ hk hi
    simp only [List.cons_append, List.nil_append]
    refine WpC.seq (WpC.ops tabOk (r := []) (by simp -implicitDefEqProofs [e1, F0, d17, hs0] <;> rfl) rfl ?_)
    refine WpC.seq (WpC.condD (k < l.length) (by simp -implicitDefEqProofs [e1, F0, d17, hs0] <;> omega) (fun hlt => ?_) (fun hge => ?_))
    · refine WpC.skip ?_
      have hkf : k < f.length := by omega
      obtain ⟨x, hx⟩ : ∃ x, l[k] = x := ⟨_, rfl⟩
      have hfk := hfi k hlt
      have hFS := FS k hkf
      have hFL := FL k (by omega)
      have hst := sumF_step (wantF f) k
      have hS1 := hSb k (by omega)
      have hS2 := hSb (k + 1) hkf
      have hwk := wantF_at hkf
      rw [hfk, hx] at hFS hwk
      rw [hwk] at hst
      simp only [capO, Ord.enc, Ord.cs] at hFS hst
      obtain ⟨s, hs⟩ : ∃ s, sumF (wantF f) k = s := ⟨_, rfl⟩
      obtain ⟨Y, hY⟩ : ∃ Y, F k = Y := ⟨_, rfl⟩
      rw [hs] at hst hS1
      rw [hst] at hS2
      rw [hY] at hFS hFL
      have m1 : (max x.claim 0).tmod 1099511627776 = max x.claim 0 % 1099511627776 := Int.tmod_eq_emod_of_nonneg (by omega)
      have m2 : (max x.bal 0).tmod 1099511627776 = max x.bal 0 % 1099511627776 := Int.tmod_eq_emod_of_nonneg (by omega)
      have m3 : IntKind.i64.wrap (s + min (max x.claim 0 % 1099511627776) (max x.bal 0 % 1099511627776)) = s + min (max x.claim 0 % 1099511627776) (max x.bal 0 % 1099511627776) := wrapI (by omega) (by omega)
      have hkw : IntKind.i64.wrap ((k : Int) + 1) = k + 1 := wrapI (by omega) (by omega)
      have hks : k ≤ 8589934591 := by omega
      refine WpC.seq ?_
      refine WpC.block ?_
      refine WpC.seq (WpC.ops tabOk (r := []) (by simp -implicitDefEqProofs [e1, F0, d17, hs0, hlt, hx, hs, hY, hFL, m1, m2, m3, hkw, hks] <;> rfl) rfl ?_)
      refine WpC.seq (WpC.ops tabOk (r := []) (by simp -implicitDefEqProofs [e1, F0, d17, hs0, hlt, hx, hs, hY, hFL, m1, m2, m3, hkw, hks] <;> rfl) rfl ?_)
      refine WpC.seq (WpC.ops tabOk (r := []) (by simp -implicitDefEqProofs [e1, F0, d17, hs0, hlt, hx, hs, hY, hFL, m1, m2, m3, hkw, hks] <;> rfl) rfl ?_)
      refine WpC.ops tabOk (r := []) (by simp -implicitDefEqProofs [e1, F0, d17, hs0, hlt, hx, hs, hY, hFL, m1, m2, m3, hkw, hks] <;> rfl) rfl ?_
      refine WpC.ops tabOk (r := []) (by simp -implicitDefEqProofs [e1, F0, d17, hs0, hlt, hx, hs, hY, hFL, m1, m2, m3, hkw, hks] <;> rfl) rfl ?_
      exact ⟨hlt, (), trivial, Gh.pick [5, 6, 21, 1, 19, 20] [3] (by simp -implicitDefEqProofs [e1, F0, d17, hs0, hlt, hx, hs, hY, hFL, m1, m2, m3, hkw, hks, hFS, hst]; rfl) (by simp -implicitDefEqProofs [e1, F0, d17, hs0, hlt, hx, hs, hY, hFL, m1, m2, m3, hkw, hks, hFS, hst]) (by simp) (by simp) (by simp; rfl) (by simp -implicitDefEqProofs [e1, F0, d17, hs0, hlt, hx, hs, hY, hFL, m1, m2, m3, hkw, hks, hFS, hst]) (by simp)⟩
    · refine WpC.exit ?_
      have hkn : k = f.length := by omega
      subst hkn
      have hS := hSb f.length (Nat.le_refl _)
      obtain ⟨s, hs⟩ : ∃ s, sumF (wantF f) f.length = s := ⟨_, rfl⟩
      rw [hs] at hS
      have w1 : IntKind.i64.wrap (pr + s) = pr + s := wrapI (by omega) (by omega)
      have c1 : chkE (pr + s) pr f = 0 := chk_zero (by omega) (by omega) (by omega) fun o h => by have := hfb o h; omega
      have c2 : chkE pr pr f = 0 := chk_zero (by omega) (by omega) (by omega) fun o h => by have := hfb o h; omega
      have v1 := serveL_ok (pr + s) pr f (by omega)
      have v2 := serveL_ok pr pr f (by omega)
      obtain ⟨g1, _⟩ := chk_good c1
      obtain ⟨g2, _⟩ := chk_good c2
      obtain ⟨l1, i1⟩ := outI_facts c1
      obtain ⟨l2, i2⟩ := outI_facts c2
      rw [c1] at v1
      rw [c2] at v2
      obtain ⟨K, hK⟩ : ∃ K, outI (pr + s) pr f = K := ⟨_, rfl⟩
      obtain ⟨N, hN⟩ : ∃ K, outI pr pr f = K := ⟨_, rfl⟩
      rw [hK] at v1 l1
      rw [hN] at v2 l2
      have hA1 : at0 (pr + s - pr) = s := by unfold at0; split <;> omega
      have hA2 : at0 (pr - pr) = 0 := by unfold at0; split <;> omega
      rw [hA1] at g1 i1
      rw [hA2] at g2 i2
      have hKi : ∀ i (h : i < K.length), K[i] = wantF f i := fun i h => by
        subst hK; rw [i1 i h]; exact out_full g1 hs.symm (by omega)
      have hNi : ∀ i (h : i < N.length), N[i] = 0 := fun i h => by
        subst hN; rw [i2 i h]; exact out_zero g2 (by omega)
      have hfs : f.length ≤ 8 := by omega
      have hFN := FN
      obtain ⟨n, hn⟩ : ∃ n, f.length = n := ⟨_, rfl⟩
      refine WpC.seq ?_
      refine WpC.region ?_
      refine WpO.run tabOk 7 (by simp -implicitDefEqProofs [e1, F0, d17, hs0, hs, w1, hFN, l1, l2] <;> first | exact ⟨rfl, rfl⟩ | rfl) ?_
      refine WpO.gh (Gh.frz [0]) ?_
      refine WpO.data (by simp) rfl (by simp -implicitDefEqProofs [e1, F0, d17, hs0, hs, w1, hFN, l1, l2] <;> rfl) (by simp -implicitDefEqProofs [e1, F0, d17, hs0, hs, w1, hFN, l1, l2] <;> rfl) (by simp -implicitDefEqProofs [e1, F0, d17, hs0, hs, w1, hFN, l1, l2] <;> rfl) call_11 (by simp) ( v1) (by rfl) (by simp -implicitDefEqProofs [e1, F0, d17, hs0, hs, w1, hFN, l1, l2] <;> rfl) ?_
      refine WpO.run tabOk 5 (by simp -implicitDefEqProofs [e1, F0, d17, hs0, hs, w1, hFN, l1, l2] <;> first | exact ⟨rfl, rfl⟩ | rfl) ?_
      refine WpO.nil ?_
      refine WpC.seq ?_
      refine WpC.region ?_
      refine WpO.run tabOk 5 (by simp -implicitDefEqProofs [e1, F0, d17, hs0, hs, w1, hFN, l1, l2] <;> first | exact ⟨rfl, rfl⟩ | rfl) ?_
      refine WpO.data (by simp) rfl (by simp -implicitDefEqProofs [e1, F0, d17, hs0, hs, w1, hFN, l1, l2] <;> rfl) (by simp -implicitDefEqProofs [e1, F0, d17, hs0, hs, w1, hFN, l1, l2] <;> rfl) (by simp -implicitDefEqProofs [e1, F0, d17, hs0, hs, w1, hFN, l1, l2] <;> rfl) call_11 (by simp) (v2) (by rfl) (by simp -implicitDefEqProofs [e1, F0, d17, hs0, hs, w1, hFN, l1, l2] <;> rfl) ?_
      refine WpO.run tabOk 5 (by simp -implicitDefEqProofs [e1, F0, d17, hs0, hs, w1, hFN, l1, l2] <;> first | exact ⟨rfl, rfl⟩ | rfl) ?_
      refine WpO.nil ?_
      refine WpC.seq ?_
      refine WpC.seq ?_
      refine WpC.val 86 (.d (.bool (false))) ?_ ?_
      · refine WpC.region ?_
        refine WpO.run tabOk 3 (by simp -implicitDefEqProofs [e1, F0, d17, hs0, hs, w1, hFN, l1, l2] <;> first | exact ⟨rfl, rfl⟩ | rfl) ?_
        refine WpO.splitB 69 (by simp -implicitDefEqProofs [e1, F0, d17, hs0, hs, w1, hFN, l1, l2] <;> rfl) (by rfl) (fun g69 => ?_) (fun g69 => ?_)
        · try (exfalso; revert g69; simp; done)
          all_goals
            have g69' := g69; first | simp only [dT, dF] at g69' | try simp at g69'
            refine WpO.run tabOk 17 (by simp -implicitDefEqProofs [e1, F0, d17, hs0, hs, w1, hFN, l1, l2, g69] <;> first | exact ⟨rfl, rfl⟩ | rfl) ?_
            refine WpO.nil ?_
            refine ⟨rfl, Gh.only 86 21 ?_ (by first | rfl | simp -implicitDefEqProofs [e1, F0, d17, hs0, hs, w1, hFN, l1, l2, g69]) (by rfl)⟩
            simp -implicitDefEqProofs [e1, F0, d17, hs0, hs, w1, hFN, l1, l2, g69, g69']
        · try (exfalso; revert g69; simp; done)
          all_goals
            have g69' := g69; first | simp only [dT, dF] at g69' | try simp at g69'
            refine WpO.run tabOk 4 (by simp -implicitDefEqProofs [e1, F0, d17, hs0, hs, w1, hFN, l1, l2, g69] <;> first | exact ⟨rfl, rfl⟩ | rfl) ?_
            refine WpO.splitB 73 (by simp -implicitDefEqProofs [e1, F0, d17, hs0, hs, w1, hFN, l1, l2, g69] <;> rfl) (by rfl) (fun g73 => ?_) (fun g73 => ?_)
            · try (exfalso; revert g73; simp; done)
              all_goals
                have g73' := g73; first | simp only [dT, dF] at g73' | try simp at g73'
                refine WpO.run tabOk 13 (by simp -implicitDefEqProofs [e1, F0, d17, hs0, hs, w1, hFN, l1, l2, g69, g73] <;> first | exact ⟨rfl, rfl⟩ | rfl) ?_
                refine WpO.nil ?_
                refine ⟨rfl, Gh.only 86 22 ?_ (by first | rfl | simp -implicitDefEqProofs [e1, F0, d17, hs0, hs, w1, hFN, l1, l2, g69, g73]) (by rfl)⟩
                simp -implicitDefEqProofs [e1, F0, d17, hs0, hs, w1, hFN, l1, l2, g69, g73, g69', g73']
            · try (exfalso; revert g73; simp; done)
              all_goals
                have g73' := g73; first | simp only [dT, dF] at g73' | try simp at g73'
                refine WpO.run tabOk 7 (by simp -implicitDefEqProofs [e1, F0, d17, hs0, hs, w1, hFN, l1, l2, g69, g73] <;> first | exact ⟨rfl, rfl⟩ | rfl) ?_
                refine WpO.splitB 80 (by simp -implicitDefEqProofs [e1, F0, d17, hs0, hs, w1, hFN, l1, l2, g69, g73] <;> rfl) (by rfl) (fun g80 => ?_) (fun g80 => ?_)
                · try (exfalso; revert g80; simp; done)
                  all_goals
                    have g80' := g80; first | simp only [dT, dF] at g80' | try simp at g80'
                    refine WpO.run tabOk 6 (by simp -implicitDefEqProofs [e1, F0, d17, hs0, hs, w1, hFN, l1, l2, g69, g73, g80] <;> first | exact ⟨rfl, rfl⟩ | rfl) ?_
                    refine WpO.nil ?_
                    refine ⟨rfl, Gh.only 86 23 ?_ (by first | rfl | simp -implicitDefEqProofs [e1, F0, d17, hs0, hs, w1, hFN, l1, l2, g69, g73, g80]) (by rfl)⟩
                    simp -implicitDefEqProofs [e1, F0, d17, hs0, hs, w1, hFN, l1, l2, g69, g73, g80, g69', g73', g80']
                · try (exfalso; revert g80; simp; done)
                  all_goals
                    have g80' := g80; first | simp only [dT, dF] at g80' | try simp at g80'
                    refine WpO.run tabOk 6 (by simp -implicitDefEqProofs [e1, F0, d17, hs0, hs, w1, hFN, l1, l2, g69, g73, g80] <;> first | exact ⟨rfl, rfl⟩ | rfl) ?_
                    refine WpO.nil ?_
                    refine ⟨rfl, Gh.only 86 23 ?_ (by first | rfl | simp -implicitDefEqProofs [e1, F0, d17, hs0, hs, w1, hFN, l1, l2, g69, g73, g80]) (by rfl)⟩
                    simp -implicitDefEqProofs [e1, F0, d17, hs0, hs, w1, hFN, l1, l2, g69, g73, g80, g69', g73', g80']
      refine WpC.condF (by simp -implicitDefEqProofs [e1, F0, d17, hs0, hs, w1, hFN, l1, l2] <;> rfl) ?_
      refine WpC.skip ?_
      refine WpC.seq ?_
      refine WpC.seq (WpC.ops tabOk (r := []) (by simp -implicitDefEqProofs [e1, F0, d17, hs0, hs, w1, hFN, l1, l2] <;> rfl) rfl ?_)
      refine WpC.block ?_
      refine WpC.loopK [9, 11, 87, 88] [89] (f.length) (() : Unit) (fun k _ => [(89, .d (.int .i64 k))]) (fun k _ => [.frz 4 (f.map Ord.enc)]) (fun k _ => True) (by simp -implicitDefEqProofs [e1, F0, d17, hs0, hs, w1, hFN, l1, l2] <;> rfl) (Gh.cut' [89, 9, 11, 87, 88] 1 (by simp -implicitDefEqProofs [e1, F0, d17, hs0, hs, w1, hFN, l1, l2]) (by simp -implicitDefEqProofs [e1, F0, d17, hs0, hs, w1, hFN, l1, l2]) rfl (by simp) (by simp) (by simp)) (by simp) ?_
      rintro k ⟨⟩ hk hi
      simp only [List.cons_append, List.nil_append]
      refine WpC.seq (WpC.ops tabOk (r := []) (by simp -implicitDefEqProofs [e1, F0, d17, hs0, hs, w1, hFN, l1, l2] <;> rfl) rfl ?_)
      refine WpC.seq (WpC.condD (k < f.length) (by simp -implicitDefEqProofs [e1, F0, d17, hs0, hs, w1, hFN, l1, l2] <;> omega) (fun hlt => ?_) (fun hge => ?_))
      · refine WpC.skip ?_
        have hkK : k < K.length := by omega
        have hkN : k < N.length := by omega
        obtain ⟨x, hx⟩ : ∃ x, f[k] = x := ⟨_, rfl⟩
        have h1 : K[k] = min x.claim x.bal := by rw [hKi k hkK, wantF_at hlt, hx]
        have h2 : N[k] = 0 := hNi k hkN
        have hkw : IntKind.i64.wrap ((k : Int) + 1) = k + 1 := wrapI (by omega) (by omega)
        refine WpC.seq ?_
        refine WpC.block ?_
        refine WpC.seq (WpC.ops tabOk (r := []) (by simp -implicitDefEqProofs [e1, F0, d17, hs0, hs, w1, hFN, l1, l2, hlt, hkK, hkN, hx, h1, h2, hkw] <;> rfl) rfl ?_)
        refine WpC.seq ?_
        refine WpC.val 110 (.d (.bool (false))) ?_ ?_
        · refine WpC.drawn tabOk (by kernel_rfl) 0 (by simp) ?_
          refine DrO.run (fz := []) 3 (by simp -implicitDefEqProofs [e1, F0, d17, hs0, hs, w1, hFN, l1, l2, hlt, hkK, hkN, hx, h1, h2, hkw] <;> first | exact ⟨rfl, rfl, rfl, rfl⟩ | rfl) ?_
          refine DrO.run (fz := []) 3 (by simp -implicitDefEqProofs [e1, F0, d17, hs0, hs, w1, hFN, l1, l2, hlt, hkK, hkN, hx, h1, h2, hkw] <;> first | exact ⟨rfl, rfl, rfl, rfl⟩ | rfl) ?_
          refine DrO.run (fz := []) 3 (by simp -implicitDefEqProofs [e1, F0, d17, hs0, hs, w1, hFN, l1, l2, hlt, hkK, hkN, hx, h1, h2, hkw] <;> first | exact ⟨rfl, rfl, rfl, rfl⟩ | rfl) ?_
          refine DrO.run (fz := []) 2 (by simp -implicitDefEqProofs [e1, F0, d17, hs0, hs, w1, hFN, l1, l2, hlt, hkK, hkN, hx, h1, h2, hkw] <;> first | exact ⟨rfl, rfl, rfl, rfl⟩ | rfl) ?_
          refine DrO.splitB 104 (by simp -implicitDefEqProofs [e1, F0, d17, hs0, hs, w1, hFN, l1, l2, hlt, hkK, hkN, hx, h1, h2, hkw] <;> rfl) (by rfl) (fun g104 => ?_) (fun g104 => ?_)
          · try (exfalso; revert g104; simp; done)
            all_goals
              have g104' := g104; first | simp only [dT, dF] at g104' | try simp at g104'
              refine DrO.run (fz := []) 3 (by simp -implicitDefEqProofs [e1, F0, d17, hs0, hs, w1, hFN, l1, l2, hlt, hkK, hkN, hx, h1, h2, hkw, g104] <;> first | exact ⟨rfl, rfl, rfl, rfl⟩ | rfl) ?_
              refine DrO.run (fz := []) 3 (by simp -implicitDefEqProofs [e1, F0, d17, hs0, hs, w1, hFN, l1, l2, hlt, hkK, hkN, hx, h1, h2, hkw, g104] <;> first | exact ⟨rfl, rfl, rfl, rfl⟩ | rfl) ?_
              refine DrO.nil ⟨by kernel_rfl, ?_⟩
              refine ⟨rfl, Gh.only 110 17 ?_ (by first | rfl | simp -implicitDefEqProofs [e1, F0, d17, hs0, hs, w1, hFN, l1, l2, hlt, hkK, hkN, hx, h1, h2, hkw, g104]) (by rfl)⟩
              simp -implicitDefEqProofs [e1, F0, d17, hs0, hs, w1, hFN, l1, l2, hlt, hkK, hkN, hx, h1, h2, hkw, g104, g104']
          · try (exfalso; revert g104; simp; done)
            all_goals
              have g104' := g104; first | simp only [dT, dF] at g104' | try simp at g104'
              refine DrO.run (fz := []) 3 (by simp -implicitDefEqProofs [e1, F0, d17, hs0, hs, w1, hFN, l1, l2, hlt, hkK, hkN, hx, h1, h2, hkw, g104] <;> first | exact ⟨rfl, rfl, rfl, rfl⟩ | rfl) ?_
              refine DrO.run (fz := []) 3 (by simp -implicitDefEqProofs [e1, F0, d17, hs0, hs, w1, hFN, l1, l2, hlt, hkK, hkN, hx, h1, h2, hkw, g104] <;> first | exact ⟨rfl, rfl, rfl, rfl⟩ | rfl) ?_
              refine DrO.nil ⟨by kernel_rfl, ?_⟩
              refine ⟨rfl, Gh.only 110 17 ?_ (by first | rfl | simp -implicitDefEqProofs [e1, F0, d17, hs0, hs, w1, hFN, l1, l2, hlt, hkK, hkN, hx, h1, h2, hkw, g104]) (by rfl)⟩
              simp -implicitDefEqProofs [e1, F0, d17, hs0, hs, w1, hFN, l1, l2, hlt, hkK, hkN, hx, h1, h2, hkw, g104, g104']
        refine WpC.condF (by simp -implicitDefEqProofs [e1, F0, d17, hs0, hs, w1, hFN, l1, l2, hlt, hkK, hkN, hx, h1, h2, hkw] <;> rfl) ?_
        refine WpC.skip ?_
        refine WpC.ops tabOk (r := []) (by simp -implicitDefEqProofs [e1, F0, d17, hs0, hs, w1, hFN, l1, l2, hlt, hkK, hkN, hx, h1, h2, hkw] <;> rfl) rfl ?_
        exact ⟨hlt, (), trivial, Gh.cut' [89, 9, 11, 87, 88] 1 (by simp -implicitDefEqProofs [e1, F0, d17, hs0, hs, w1, hFN, l1, l2, hlt, hkK, hkN, hx, h1, h2, hkw]) (by simp -implicitDefEqProofs [e1, F0, d17, hs0, hs, w1, hFN, l1, l2, hlt, hkK, hkN, hx, h1, h2, hkw]) rfl (by simp) (by simp) (by simp)⟩
      · refine WpC.exit ?_
        have hkn : k = f.length := by omega
        subst hkn
        refine WpC.seq ?_
        refine WpC.region ?_
        refine WpO.data (by simp) rfl (by simp -implicitDefEqProofs [e1, F0, d17, hs0, hs, w1, hFN, l1, l2] <;> rfl) (by simp -implicitDefEqProofs [e1, F0, d17, hs0, hs, w1, hFN, l1, l2] <;> rfl) (by simp -implicitDefEqProofs [e1, F0, d17, hs0, hs, w1, hFN, l1, l2] <;> rfl) call_10 (by simp) (awake15_ok) (by rfl) (by simp -implicitDefEqProofs [e1, F0, d17, hs0, hs, w1, hFN, l1, l2] <;> rfl) ?_
        refine WpO.run tabOk 1 (by simp -implicitDefEqProofs [e1, F0, d17, hs0, hs, w1, hFN, l1, l2] <;> first | exact ⟨rfl, rfl⟩ | rfl) ?_
        refine WpO.nil ?_
        refine WpC.ret ?_
        try simp only [blockQ, seqQ]
        refine retD_i (by simp -implicitDefEqProofs [e1, F0, d17, hs0, hs, w1, hFN, l1, l2] <;> rfl) (by simp -implicitDefEqProofs [e1, F0, d17, hs0, hs, w1, hFN, l1, l2] <;> rfl) ?_
        simp -implicitDefEqProofs [e1, F0, d17, hs0, hs, w1, hFN, l1, l2]
section
variable {w : World}
theorem garnishAll_row {e0 e1 : List D} {v0 v1 : Value} {i0 i1 : TI} (y0 : HasT tab 8 22 e0) (y1 : HasT tab 8 38 e1) (t0 : some i0 = tab 22) (t1 : some i1 = tab 38)
    (z0 : DRel w (lt w) (elemD i0 e0) v0) (z1 : DRel w (lt w) (elemD i1 e1) v1) :
    Calls Try.prog 7 #[v0, v1] w fun e w' => e = .returned (.bool true) ∧ Below w.heap.size w w' := by
  rw [tab_22] at t0; cases t0
  rw [tab_38] at t1; cases t1
  obtain ⟨l, ho, hl, rfl⟩ := has_ords y0
  obtain ⟨m, rfl, hm⟩ := has_num y1 tab_38
  refine WpF.law (garnishAll_ok l m ⟨hm.1, hm.2⟩ (by simpa [maxLen] using hl) ho) (fun r S h => h.1) (vs := [v0, v1]) ?_
  simp only [VRelL, VRel]
  exact ⟨v0, _, rfl, z0, v1, _, rfl, z1, rfl⟩
end
end Go.Proofs.Ytaobnhenjldjeaa.Pay
