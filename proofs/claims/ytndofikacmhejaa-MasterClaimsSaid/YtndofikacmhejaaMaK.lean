/- Law MasterClaims. No statement of the seed is proved here. -/
import Derived.Test.YtndofikacmhejaaMaH
namespace Go.Proofs.Ytndofikacmhejaa.Pay
open Go Go.RowKit
set_option linter.unusedVariables false
set_option linter.unusedSimpArgs false

def mcO (c : Int) : Ord := ⟨c, 1, 1, 2⟩
def mcP (a : List Int) : Per := ⟨4, 24276, 0, [ln0], a.map mcO⟩
def mcE (a : List Int) (c : Int) : Int := if c = 0 then 1 else if c ∈ a then 6 else if 8 ≤ (a.length : Int) then 9 else 0
def mcN (a : List Int) (c : Int) : List Int := if mcE a c = 0 then a ++ [c] else a
theorem mcE_cases (a : List Int) (c : Int) : (c = 0 ∧ mcE a c = 1) ∨ (¬ c = 0 ∧ c ∈ a ∧ mcE a c = 6) ∨ (¬ c = 0 ∧ ¬ c ∈ a ∧ 8 ≤ (a.length : Int) ∧ mcE a c = 9) ∨ (¬ c = 0 ∧ ¬ c ∈ a ∧ ¬ 8 ≤ (a.length : Int) ∧ mcE a c = 0) := by
  unfold mcE
  by_cases e1 : c = 0
  · simp [e1]
  · by_cases e2 : c ∈ a
    · simp [e1, e2]
    · by_cases e3 : 8 ≤ (a.length : Int)
      · simp [e1, e2, e3]
      · simp [e1, e2, e3]
theorem mc_srch (a : List Int) : srch (perCmp 4) [mcP a] = 0 ∧ srchB (perCmp 4) [mcP a] = true := by
  simp [srchB, srch_fuel, bsf, ltAt, perCmp, mcP, wrap_zero]
theorem mc_claim (a : List Int) (c : Int) (hc : 0 ≤ c ∧ c ≤ 255) : claimS [mcP a] 4 (mcO c) = ([mcP (mcN a c)], mcE a c) := by
  obtain ⟨h1, h2⟩ := mc_srch a
  have hany : ((mcP a).ords.any fun x => decide (x.cred = (mcO c).cred)) = decide (c ∈ a) := by
    simp only [mcP, mcO, List.any_map, Function.comp_def]
    rw [Bool.eq_iff_iff, List.any_eq_true, decide_eq_true_eq]
    exact ⟨fun ⟨x, h, e⟩ => of_decide_eq_true e ▸ h, fun h => ⟨c, h, decide_eq_true rfl⟩⟩
  have hob : ordBad (mcO c) = decide (c = 0) := by
    unfold ordBad mcO
    show (decide (min (min (min c 1) 1) 2 < 1) || decide (999 < max c 1) || decide ((1099511627776 : Int) < max 1 2)) = decide (c = 0)
    by_cases h : c = 0
    · subst h; rfl
    · have h1 : ¬ min (min (min c 1) 1) 2 < 1 := by omega
      have h2 : ¬ 999 < max c 1 := by omega
      have h3 : ¬ (1099511627776 : Int) < max 1 2 := by omega
      rw [decide_eq_false h1, decide_eq_false h2, decide_eq_false h3, decide_eq_false h]; rfl
  unfold claimS
  rw [h1, h2]
  simp only [List.getElem?_cons_zero, Option.getD_some, hany, hob]
  have hlen : (mcP a).ords.length = a.length := by simp [mcP]
  rw [hlen]
  unfold mcN mcE
  simp only [Bool.true_eq_false, if_false, decide_eq_true_eq]
  by_cases e1 : c = 0
  · simp [e1]
  · by_cases e2 : c ∈ a
    · simp [e1, e2]
    · by_cases e3 : 8 ≤ (a.length : Int)
      · simp [e1, e2, e3]
      · simp [e1, e2, e3, mcP]
theorem mc_find (a : List Int) : findS [mcP a] 4 = (mcP a, 0) := by
  obtain ⟨h1, h2⟩ := mc_srch a
  unfold findS
  rw [h1, h2]; rfl
theorem mc_hire : hireS [] 4 ln0 = ([mcP []], 0) := by
  simp [hireS, srchB, srch_fuel, bsf, ln0, hireBad, rightB, bigB, periodB, mcP]

/-- Who is there: of 256. -/
def thC (a : List Int) : List FV := (List.range 256).map fun (c : Nat) => .d (.bool (decide ((c : Int) ∈ a)))
@[simp] theorem thC_len (a : List Int) : (thC a).length = 256 := by simp [thC]
theorem thC_nil : List.replicate 256 (FV.d (D.bool false)) = thC [] := by
  apply List.ext_getElem?
  intro i
  unfold thC
  simp only [List.getElem?_replicate, List.getElem?_map, List.getElem?_range, List.not_mem_nil, decide_false]
  by_cases h : i < 256
  · simp [h, List.getElem?_range]
  · simp [h]
theorem thC_get (a : List Int) {c : Int} (h : 0 ≤ c ∧ c ≤ 255) : (thC a)[c.toNat]? = some (.d (.bool (decide (c ∈ a)))) := by
  unfold thC
  rw [List.getElem?_map, List.getElem?_range (by omega)]
  simp [Int.toNat_of_nonneg h.1]
theorem thC_set (a : List Int) {c : Int} (h : 0 ≤ c ∧ c ≤ 255) : (thC a).set c.toNat (.d (.bool true)) = thC (a ++ [c]) := by
  apply List.ext_getElem?
  intro i
  rw [List.getElem?_set]
  by_cases hi : c.toNat = i
  · subst hi
    rw [if_pos rfl, if_pos (by rw [thC_len]; omega), thC_get _ h]
    simp
  · rw [if_neg hi]
    unfold thC
    simp only [List.getElem?_map]
    by_cases h2 : i < 256
    · rw [List.getElem?_range h2]
      have : ¬ ((i : Int) = c) := by omega
      simp [this]
    · rw [List.getElem?_eq_none (by simp; omega)]; rfl

@[simp] theorem thC_below (n : Nat) (a : List Int) : belows n (thC a) = true := by
  unfold thC
  generalize List.range 256 = l
  induction l with
  | nil => rfl
  | cons x l ih => rw [List.map_cons, belows, ih]; rfl
@[simp] theorem thC_ren (f : Nat → Nat) (a : List Int) : rens f (thC a) = thC a := by
  unfold thC
  generalize List.range 256 = l
  induction l with
  | nil => rfl
  | cons x l ih => rw [List.map_cons, rens, ih]; rfl
set_option maxHeartbeats 40000000 in
theorem claims_ok (gs : List Int) (hg : ∀ g ∈ gs, 0 ≤ g ∧ g ≤ 255) (hl : gs.length ≤ 9223372036854775807) : Gives Try.prog 9 [.d (.list 1 (gs.map (.int .u8)))] (.d (.bool true)) := by
  have h1 := hire_ok [] 4 ln0 (by simp)
  rw [mc_hire] at h1
  have h1' : Gives Try.prog 20 [.d (.agg [.nil]), .d (dI 4), .d ln0.enc] _ := Gives.le h1 (by simp [leA, FV.le, D.leL])
  have hnil := thC_nil
  refine Gives.enter tabOk Try.func9 rfl (by show 1 ≤ 152; decide) ?_
  simp only [Try.f9]
  refine WpC.seq (WpC.ops tabOk (r := []) (by simp -implicitDefEqProofs [ln0, mcP, mcO, -List.reduceReplicate, thC_len, thC_below, hnil] <;> rfl) rfl ?_)
  refine WpC.seq ?_
  refine WpC.region ?_
  refine WpO.run tabOk 2 (by simp -implicitDefEqProofs [ln0, mcP, mcO, -List.reduceReplicate, thC_len, thC_below, hnil] <;> first | exact ⟨rfl, rfl⟩ | rfl) ?_
  refine WpO.data (by simp) rfl (by simp -implicitDefEqProofs [ln0, mcP, mcO, -List.reduceReplicate, thC_len, thC_below, hnil] <;> rfl) (by simp -implicitDefEqProofs [ln0, mcP, mcO, -List.reduceReplicate, thC_len, thC_below, hnil] <;> rfl) (by simp -implicitDefEqProofs [ln0, mcP, mcO, -List.reduceReplicate, thC_len, thC_below, hnil] <;> rfl) call_20 (by simp) (h1') (by rfl) (by simp -implicitDefEqProofs [ln0, mcP, mcO, -List.reduceReplicate, thC_len, thC_below, hnil] <;> rfl) ?_
  refine WpO.run tabOk 6 (by simp -implicitDefEqProofs [ln0, mcP, mcO, -List.reduceReplicate, thC_len, thC_below, hnil] <;> first | exact ⟨rfl, rfl⟩ | rfl) ?_
  refine WpO.nil ?_
  refine WpC.seq ?_
  refine WpC.seq ?_
  refine WpC.val 28 (.d (.bool (decide ((40 : Int) < gs.length)))) ?_ ?_
  · refine WpC.region ?_
    refine WpO.run tabOk 3 (by simp -implicitDefEqProofs [ln0, mcP, mcO, -List.reduceReplicate, thC_len, thC_below, hnil] <;> first | exact ⟨rfl, rfl⟩ | rfl) ?_
    refine WpO.splitB 24 (by simp -implicitDefEqProofs [ln0, mcP, mcO, -List.reduceReplicate, thC_len, thC_below, hnil] <;> rfl) (by rfl) (fun g24 => ?_) (fun g24 => ?_)
    · exact absurd g24 (by simp)
    · have g24' := g24; first | simp only [dT, dF] at g24' | try simp at g24'
      refine WpO.run tabOk 4 (by simp -implicitDefEqProofs [ln0, mcP, mcO, -List.reduceReplicate, thC_len, thC_below, hnil, g24] <;> first | exact ⟨rfl, rfl⟩ | rfl) ?_
      refine WpO.nil ?_
      refine ⟨rfl, Gh.only 28 8 ?_ (by first | rfl | simp -implicitDefEqProofs [ln0, mcP, mcO, -List.reduceReplicate, thC_len, thC_below, hnil, g24]) (by rfl)⟩
      simp -implicitDefEqProofs [ln0, mcP, mcO, -List.reduceReplicate, thC_len, thC_below, hnil, g24, g24']
  refine WpC.condD ((40 : Int) < gs.length) (by simp -implicitDefEqProofs [ln0, mcP, mcO, -List.reduceReplicate, thC_len, thC_below, hnil]) (fun d28 => ?_) (fun d28 => ?_)
  · refine WpC.seq ?_
    refine WpC.region ?_
    refine WpO.run tabOk 4 (by simp -implicitDefEqProofs [ln0, mcP, mcO, -List.reduceReplicate, thC_len, thC_below, hnil, d28] <;> first | exact ⟨rfl, rfl⟩ | rfl) ?_
    refine WpO.splitB 32 (by simp -implicitDefEqProofs [ln0, mcP, mcO, -List.reduceReplicate, thC_len, thC_below, hnil, d28] <;> rfl) (by rfl) (fun g32 => ?_) (fun g32 => ?_)
    · have g32' := g32; first | simp only [dT, dF] at g32' | try simp at g32'
      refine WpO.data (by simp) rfl (by simp -implicitDefEqProofs [ln0, mcP, mcO, -List.reduceReplicate, thC_len, thC_below, hnil, d28, g32] <;> rfl) (by simp -implicitDefEqProofs [ln0, mcP, mcO, -List.reduceReplicate, thC_len, thC_below, hnil, d28, g32] <;> rfl) (by simp -implicitDefEqProofs [ln0, mcP, mcO, -List.reduceReplicate, thC_len, thC_below, hnil, d28, g32] <;> rfl) call_19 (by simp) (awake13_ok) (by rfl) (by simp -implicitDefEqProofs [ln0, mcP, mcO, -List.reduceReplicate, thC_len, thC_below, hnil, d28, g32] <;> rfl) ?_
      refine WpO.run tabOk 2 (by simp -implicitDefEqProofs [ln0, mcP, mcO, -List.reduceReplicate, thC_len, thC_below, hnil, d28, g32] <;> first | exact ⟨rfl, rfl⟩ | rfl) ?_
      refine WpO.nil ?_
      refine WpC.ret ?_
      try simp only [blockQ, seqQ]
      refine retD_i (by simp -implicitDefEqProofs [ln0, mcP, mcO, -List.reduceReplicate, thC_len, thC_below, hnil, d28, g32] <;> rfl) (by simp -implicitDefEqProofs [ln0, mcP, mcO, -List.reduceReplicate, thC_len, thC_below, hnil, d28, g32] <;> rfl) ?_
      simp -implicitDefEqProofs [ln0, mcP, mcO, -List.reduceReplicate, thC_len, thC_below, hnil, d28, g32]
    · exact absurd g32 (by simp)
  · refine WpC.skip ?_
    refine WpC.seq (WpC.ops tabOk (r := []) (by simp -implicitDefEqProofs [ln0, mcP, mcO, -List.reduceReplicate, thC_len, thC_below, hnil, d28] <;> rfl) rfl ?_)
    refine WpC.gh (Gh.nilArr 3 1 (t := 5) (by simp) (by simp)) ?_
    refine WpC.seq (WpC.ops tabOk (r := []) (by simp -implicitDefEqProofs [ln0, mcP, mcO, -List.reduceReplicate, thC_len, thC_below, hnil, d28] <;> rfl) rfl ?_)
    refine WpC.seq ?_
    refine WpC.seq (WpC.ops tabOk (r := []) (by simp -implicitDefEqProofs [ln0, mcP, mcO, -List.reduceReplicate, thC_len, thC_below, hnil, d28] <;> rfl) rfl ?_)
    refine WpC.block ?_
    refine WpC.loopK [3, 6, 35, 36] [5, 37] (gs.length) ([] : List Int) (fun k a => [(5, .sl 1 a.length), (37, .d (.int .i64 k))]) (fun k a => [.cells 57 [.d (encPes [mcP a])], .arr 3 1 (a.map dI), .cells 75 (thC a)]) (fun k a => a.length ≤ k) (by simp -implicitDefEqProofs [ln0, mcP, mcO, -List.reduceReplicate, thC_len, thC_below, hnil, d28] <;> rfl) (Gh.cut' [5, 37, 3, 6, 35, 36] 3 (by simp -implicitDefEqProofs [ln0, mcP, mcO, -List.reduceReplicate, thC_len, thC_below, hnil, d28]) (by simp -implicitDefEqProofs [ln0, mcP, mcO, -List.reduceReplicate, thC_len, thC_below, hnil, d28]) rfl (by simp) (by simp) (by simp)) (by simp) ?_
    rintro k a hk hi
    simp only [List.cons_append, List.nil_append]
    refine WpC.seq (WpC.ops tabOk (r := []) (by simp -implicitDefEqProofs [ln0, mcP, mcO, -List.reduceReplicate, thC_len, thC_below, hnil, d28] <;> rfl) rfl ?_)
    refine WpC.seq (WpC.condD (k < gs.length) (by simp -implicitDefEqProofs [ln0, mcP, mcO, -List.reduceReplicate, thC_len, thC_below, hnil, d28] <;> omega) (fun hlt => ?_) (fun hge => ?_))
    · refine WpC.skip ?_
      have hkl : k < gs.length := by omega
      obtain ⟨c, hgk⟩ : ∃ c, gs[k] = c := ⟨_, rfl⟩
      have hgb : 0 ≤ c ∧ c ≤ 255 := hgk ▸ hg _ (List.getElem_mem hkl)
      have hg1 : IntKind.i64.wrap c = c := wrapI (by omega) (by omega)
      have hk1 : IntKind.i64.wrap ((k : Int) + 1) = k + 1 := wrapI (by omega) (by omega)
      have hc := claim_ok [mcP a] 4 (mcO c) (by simp) (by simp [mcP]; omega)
      rw [mc_claim a c hgb] at hc
      have hth := thC_get a hgb
      have hgb1 := hgb.1
      have hcs := mcE_cases a c
      have hgb3 := hgb.2
      have hal : a.length ≤ 8589934591 := by omega
      have hth2 : ∀ h : c.toNat < (thC a).length, (thC a)[c.toNat] = .d (.bool (decide (c ∈ a))) := fun h => by
        rw [List.getElem?_eq_getElem h] at hth; exact Option.some.inj hth
      have hgb2 : c < 256 := by omega
      refine WpC.seq ?_
      refine WpC.block ?_
      refine WpC.seq (WpC.ops tabOk (r := []) (by simp -implicitDefEqProofs [ln0, mcP, mcO, -List.reduceReplicate, thC_len, thC_below, hnil, d28, hlt, hkl, hgk, hg1, hk1, hth, hth2, hgb1, hgb2, hgb3, hal] <;> rfl) rfl ?_)
      refine WpC.seq ?_
      refine WpC.region ?_
      refine WpO.run tabOk 4 (by simp -implicitDefEqProofs [ln0, mcP, mcO, -List.reduceReplicate, thC_len, thC_below, hnil, d28, hlt, hkl, hgk, hg1, hk1, hth, hth2, hgb1, hgb2, hgb3, hal] <;> first | exact ⟨rfl, rfl⟩ | rfl) ?_
      refine WpO.data (by simp) rfl (by simp -implicitDefEqProofs [ln0, mcP, mcO, -List.reduceReplicate, thC_len, thC_below, hnil, d28, hlt, hkl, hgk, hg1, hk1, hth, hth2, hgb1, hgb2, hgb3, hal] <;> rfl) (by simp -implicitDefEqProofs [ln0, mcP, mcO, -List.reduceReplicate, thC_len, thC_below, hnil, d28, hlt, hkl, hgk, hg1, hk1, hth, hth2, hgb1, hgb2, hgb3, hal] <;> rfl) (by simp -implicitDefEqProofs [ln0, mcP, mcO, -List.reduceReplicate, thC_len, thC_below, hnil, d28, hlt, hkl, hgk, hg1, hk1, hth, hth2, hgb1, hgb2, hgb3, hal] <;> rfl) call_26 (by simp) (hc) (by rfl) (by simp -implicitDefEqProofs [ln0, mcP, mcO, -List.reduceReplicate, thC_len, thC_below, hnil, d28, hlt, hkl, hgk, hg1, hk1, hth, hth2, hgb1, hgb2, hgb3, hal] <;> rfl) ?_
      refine WpO.run tabOk 6 (by simp -implicitDefEqProofs [ln0, mcP, mcO, -List.reduceReplicate, thC_len, thC_below, hnil, d28, hlt, hkl, hgk, hg1, hk1, hth, hth2, hgb1, hgb2, hgb3, hal] <;> first | exact ⟨rfl, rfl⟩ | rfl) ?_
      refine WpO.nil ?_
      refine WpC.seq ?_
      refine WpC.val 11 (.d (.bool (decide (mcE a c = 0)))) ?_ ?_
      · refine WpC.region ?_
        refine WpO.run tabOk 3 (by simp -implicitDefEqProofs [ln0, mcP, mcO, -List.reduceReplicate, thC_len, thC_below, hnil, d28, hlt, hkl, hgk, hg1, hk1, hth, hth2, hgb1, hgb2, hgb3, hal] <;> first | exact ⟨rfl, rfl⟩ | rfl) ?_
        refine WpO.splitB 51 (by simp -implicitDefEqProofs [ln0, mcP, mcO, -List.reduceReplicate, thC_len, thC_below, hnil, d28, hlt, hkl, hgk, hg1, hk1, hth, hth2, hgb1, hgb2, hgb3, hal] <;> rfl) (by rfl) (fun g51 => ?_) (fun g51 => ?_)
        · try (exfalso; revert g51; simp; done)
          all_goals
            have g51' := g51; first | simp only [dT, dF] at g51' | try simp at g51'
            refine WpO.run tabOk 6 (by simp -implicitDefEqProofs [ln0, mcP, mcO, -List.reduceReplicate, thC_len, thC_below, hnil, d28, hlt, hkl, hgk, hg1, hk1, hth, hth2, hgb1, hgb2, hgb3, hal, g51] <;> first | exact ⟨rfl, rfl⟩ | rfl) ?_
            refine WpO.splitB 57 (by simp -implicitDefEqProofs [ln0, mcP, mcO, -List.reduceReplicate, thC_len, thC_below, hnil, d28, hlt, hkl, hgk, hg1, hk1, hth, hth2, hgb1, hgb2, hgb3, hal, g51] <;> rfl) (by rfl) (fun g57 => ?_) (fun g57 => ?_)
            · try (exfalso; revert g57; simp; done)
              all_goals
                have g57' := g57; first | simp only [dT, dF] at g57' | try simp at g57'
                refine WpO.run tabOk 5 (by simp -implicitDefEqProofs [ln0, mcP, mcO, -List.reduceReplicate, thC_len, thC_below, hnil, d28, hlt, hkl, hgk, hg1, hk1, hth, hth2, hgb1, hgb2, hgb3, hal, g51, g57] <;> first | exact ⟨rfl, rfl⟩ | rfl) ?_
                refine WpO.nil ?_
                refine ⟨rfl, Gh.only 11 16 ?_ (by first | rfl | simp -implicitDefEqProofs [ln0, mcP, mcO, -List.reduceReplicate, thC_len, thC_below, hnil, d28, hlt, hkl, hgk, hg1, hk1, hth, hth2, hgb1, hgb2, hgb3, hal, g51, g57]) (by rfl)⟩
                all_goals (clear hc hth hth2 hg hnil h1 h1' hgk hg1 hk1; rcases hcs with ⟨q1, q2⟩ | ⟨q1, q2, q3⟩ | ⟨q1, q2, q3, q4⟩ | ⟨q1, q2, q3, q4⟩ <;> simp_all <;> omega)
            · try (exfalso; revert g57; simp; done)
              all_goals
                have g57' := g57; first | simp only [dT, dF] at g57' | try simp at g57'
                refine WpO.run tabOk 5 (by simp -implicitDefEqProofs [ln0, mcP, mcO, -List.reduceReplicate, thC_len, thC_below, hnil, d28, hlt, hkl, hgk, hg1, hk1, hth, hth2, hgb1, hgb2, hgb3, hal, g51, g57] <;> first | exact ⟨rfl, rfl⟩ | rfl) ?_
                refine WpO.nil ?_
                refine ⟨rfl, Gh.only 11 16 ?_ (by first | rfl | simp -implicitDefEqProofs [ln0, mcP, mcO, -List.reduceReplicate, thC_len, thC_below, hnil, d28, hlt, hkl, hgk, hg1, hk1, hth, hth2, hgb1, hgb2, hgb3, hal, g51, g57]) (by rfl)⟩
                all_goals (clear hc hth hth2 hg hnil h1 h1' hgk hg1 hk1; rcases hcs with ⟨q1, q2⟩ | ⟨q1, q2, q3⟩ | ⟨q1, q2, q3, q4⟩ | ⟨q1, q2, q3, q4⟩ <;> simp_all <;> omega)
        · try (exfalso; revert g51; simp; done)
          all_goals
            have g51' := g51; first | simp only [dT, dF] at g51' | try simp at g51'
            refine WpO.run tabOk 11 (by simp -implicitDefEqProofs [ln0, mcP, mcO, -List.reduceReplicate, thC_len, thC_below, hnil, d28, hlt, hkl, hgk, hg1, hk1, hth, hth2, hgb1, hgb2, hgb3, hal, g51] <;> first | exact ⟨rfl, rfl⟩ | rfl) ?_
            refine WpO.nil ?_
            refine ⟨rfl, Gh.only 11 15 ?_ (by first | rfl | simp -implicitDefEqProofs [ln0, mcP, mcO, -List.reduceReplicate, thC_len, thC_below, hnil, d28, hlt, hkl, hgk, hg1, hk1, hth, hth2, hgb1, hgb2, hgb3, hal, g51]) (by rfl)⟩
            all_goals (clear hc hth hth2 hg hnil h1 h1' hgk hg1 hk1; rcases hcs with ⟨q1, q2⟩ | ⟨q1, q2, q3⟩ | ⟨q1, q2, q3, q4⟩ | ⟨q1, q2, q3, q4⟩ <;> simp_all <;> omega)
      refine WpC.seq ?_
      refine WpC.seq ?_
      refine WpC.val 104 (.d (.bool (false))) ?_ ?_
      · refine WpC.region ?_
        refine WpO.run tabOk 5 (by simp -implicitDefEqProofs [ln0, mcP, mcO, -List.reduceReplicate, thC_len, thC_below, hnil, d28, hlt, hkl, hgk, hg1, hk1, hth, hth2, hgb1, hgb2, hgb3, hal] <;> first | exact ⟨rfl, rfl⟩ | rfl) ?_
        refine WpO.splitB 66 (by simp -implicitDefEqProofs [ln0, mcP, mcO, -List.reduceReplicate, thC_len, thC_below, hnil, d28, hlt, hkl, hgk, hg1, hk1, hth, hth2, hgb1, hgb2, hgb3, hal] <;> rfl) (by rfl) (fun g66 => ?_) (fun g66 => ?_)
        · try (exfalso; revert g66; simp; done)
          all_goals
            have g66' := g66; first | simp only [dT, dF] at g66' | try simp at g66'
            refine WpO.run tabOk 38 (by simp -implicitDefEqProofs [ln0, mcP, mcO, -List.reduceReplicate, thC_len, thC_below, hnil, d28, hlt, hkl, hgk, hg1, hk1, hth, hth2, hgb1, hgb2, hgb3, hal, g66] <;> first | exact ⟨rfl, rfl⟩ | rfl) ?_
            refine WpO.nil ?_
            refine ⟨rfl, Gh.only 104 44 ?_ (by first | rfl | simp -implicitDefEqProofs [ln0, mcP, mcO, -List.reduceReplicate, thC_len, thC_below, hnil, d28, hlt, hkl, hgk, hg1, hk1, hth, hth2, hgb1, hgb2, hgb3, hal, g66]) (by rfl)⟩
            all_goals (clear hc hth hth2 hg hnil h1 h1' hgk hg1 hk1; rcases hcs with ⟨q1, q2⟩ | ⟨q1, q2, q3⟩ | ⟨q1, q2, q3, q4⟩ | ⟨q1, q2, q3, q4⟩ <;> simp_all <;> omega)
        · try (exfalso; revert g66; simp; done)
          all_goals
            have g66' := g66; first | simp only [dT, dF] at g66' | try simp at g66'
            refine WpO.run tabOk 3 (by simp -implicitDefEqProofs [ln0, mcP, mcO, -List.reduceReplicate, thC_len, thC_below, hnil, d28, hlt, hkl, hgk, hg1, hk1, hth, hth2, hgb1, hgb2, hgb3, hal, g66] <;> first | exact ⟨rfl, rfl⟩ | rfl) ?_
            refine WpO.splitB 69 (by simp -implicitDefEqProofs [ln0, mcP, mcO, -List.reduceReplicate, thC_len, thC_below, hnil, d28, hlt, hkl, hgk, hg1, hk1, hth, hth2, hgb1, hgb2, hgb3, hal, g66] <;> rfl) (by rfl) (fun g69 => ?_) (fun g69 => ?_)
            · try (exfalso; revert g69; simp; done)
              all_goals
                have g69' := g69; first | simp only [dT, dF] at g69' | try simp at g69'
                refine WpO.run tabOk 5 (by simp -implicitDefEqProofs [ln0, mcP, mcO, -List.reduceReplicate, thC_len, thC_below, hnil, d28, hlt, hkl, hgk, hg1, hk1, hth, hth2, hgb1, hgb2, hgb3, hal, g66, g69] <;> first | exact ⟨rfl, rfl⟩ | rfl) ?_
                refine WpO.splitB 74 (by simp -implicitDefEqProofs [ln0, mcP, mcO, -List.reduceReplicate, thC_len, thC_below, hnil, d28, hlt, hkl, hgk, hg1, hk1, hth, hth2, hgb1, hgb2, hgb3, hal, g66, g69] <;> rfl) (by rfl) (fun g74 => ?_) (fun g74 => ?_)
                · try (exfalso; revert g74; simp; done)
                  all_goals
                    have g74' := g74; first | simp only [dT, dF] at g74' | try simp at g74'
                    refine WpO.run tabOk 30 (by simp -implicitDefEqProofs [ln0, mcP, mcO, -List.reduceReplicate, thC_len, thC_below, hnil, d28, hlt, hkl, hgk, hg1, hk1, hth, hth2, hgb1, hgb2, hgb3, hal, g66, g69, g74] <;> first | exact ⟨rfl, rfl⟩ | rfl) ?_
                    refine WpO.nil ?_
                    refine ⟨rfl, Gh.only 104 46 ?_ (by first | rfl | simp -implicitDefEqProofs [ln0, mcP, mcO, -List.reduceReplicate, thC_len, thC_below, hnil, d28, hlt, hkl, hgk, hg1, hk1, hth, hth2, hgb1, hgb2, hgb3, hal, g66, g69, g74]) (by rfl)⟩
                    all_goals (clear hc hth hth2 hg hnil h1 h1' hgk hg1 hk1; rcases hcs with ⟨q1, q2⟩ | ⟨q1, q2, q3⟩ | ⟨q1, q2, q3, q4⟩ | ⟨q1, q2, q3, q4⟩ <;> simp_all <;> omega)
                · try (exfalso; revert g74; simp; done)
                  all_goals
                    have g74' := g74; first | simp only [dT, dF] at g74' | try simp at g74'
                    refine WpO.run tabOk 3 (by simp -implicitDefEqProofs [ln0, mcP, mcO, -List.reduceReplicate, thC_len, thC_below, hnil, d28, hlt, hkl, hgk, hg1, hk1, hth, hth2, hgb1, hgb2, hgb3, hal, g66, g69, g74] <;> first | exact ⟨rfl, rfl⟩ | rfl) ?_
                    refine WpO.splitB 77 (by simp -implicitDefEqProofs [ln0, mcP, mcO, -List.reduceReplicate, thC_len, thC_below, hnil, d28, hlt, hkl, hgk, hg1, hk1, hth, hth2, hgb1, hgb2, hgb3, hal, g66, g69, g74] <;> rfl) (by rfl) (fun g77 => ?_) (fun g77 => ?_)
                    · try (exfalso; revert g77; simp; done)
                      all_goals
                        have g77' := g77; first | simp only [dT, dF] at g77' | try simp at g77'
                        refine WpO.run tabOk 5 (by simp -implicitDefEqProofs [ln0, mcP, mcO, -List.reduceReplicate, thC_len, thC_below, hnil, d28, hlt, hkl, hgk, hg1, hk1, hth, hth2, hgb1, hgb2, hgb3, hal, g66, g69, g74, g77] <;> first | exact ⟨rfl, rfl⟩ | rfl) ?_
                        refine WpO.splitB 82 (by simp -implicitDefEqProofs [ln0, mcP, mcO, -List.reduceReplicate, thC_len, thC_below, hnil, d28, hlt, hkl, hgk, hg1, hk1, hth, hth2, hgb1, hgb2, hgb3, hal, g66, g69, g74, g77] <;> rfl) (by rfl) (fun g82 => ?_) (fun g82 => ?_)
                        · try (exfalso; revert g82; simp; done)
                          all_goals
                            have g82' := g82; first | simp only [dT, dF] at g82' | try simp at g82'
                            refine WpO.run tabOk 5 (by simp -implicitDefEqProofs [ln0, mcP, mcO, -List.reduceReplicate, thC_len, thC_below, hnil, d28, hlt, hkl, hgk, hg1, hk1, hth, hth2, hgb1, hgb2, hgb3, hal, g66, g69, g74, g77, g82] <;> first | exact ⟨rfl, rfl⟩ | rfl) ?_
                            refine WpO.splitB 87 (by simp -implicitDefEqProofs [ln0, mcP, mcO, -List.reduceReplicate, thC_len, thC_below, hnil, d28, hlt, hkl, hgk, hg1, hk1, hth, hth2, hgb1, hgb2, hgb3, hal, g66, g69, g74, g77, g82] <;> rfl) (by rfl) (fun g87 => ?_) (fun g87 => ?_)
                            · try (exfalso; revert g87; simp; done)
                              all_goals
                                have g87' := g87; first | simp only [dT, dF] at g87' | try simp at g87'
                                refine WpO.run tabOk 17 (by simp -implicitDefEqProofs [ln0, mcP, mcO, -List.reduceReplicate, thC_len, thC_below, hnil, d28, hlt, hkl, hgk, hg1, hk1, hth, hth2, hgb1, hgb2, hgb3, hal, g66, g69, g74, g77, g82, g87] <;> first | exact ⟨rfl, rfl⟩ | rfl) ?_
                                refine WpO.nil ?_
                                refine ⟨rfl, Gh.only 104 49 ?_ (by first | rfl | simp -implicitDefEqProofs [ln0, mcP, mcO, -List.reduceReplicate, thC_len, thC_below, hnil, d28, hlt, hkl, hgk, hg1, hk1, hth, hth2, hgb1, hgb2, hgb3, hal, g66, g69, g74, g77, g82, g87]) (by rfl)⟩
                                all_goals (clear hc hth hth2 hg hnil h1 h1' hgk hg1 hk1; rcases hcs with ⟨q1, q2⟩ | ⟨q1, q2, q3⟩ | ⟨q1, q2, q3, q4⟩ | ⟨q1, q2, q3, q4⟩ <;> simp_all <;> omega)
                            · try (exfalso; revert g87; simp; done)
                              all_goals
                                have g87' := g87; first | simp only [dT, dF] at g87' | try simp at g87'
                                refine WpO.run tabOk 3 (by simp -implicitDefEqProofs [ln0, mcP, mcO, -List.reduceReplicate, thC_len, thC_below, hnil, d28, hlt, hkl, hgk, hg1, hk1, hth, hth2, hgb1, hgb2, hgb3, hal, g66, g69, g74, g77, g82, g87] <;> first | exact ⟨rfl, rfl⟩ | rfl) ?_
                                refine WpO.splitB 90 (by simp -implicitDefEqProofs [ln0, mcP, mcO, -List.reduceReplicate, thC_len, thC_below, hnil, d28, hlt, hkl, hgk, hg1, hk1, hth, hth2, hgb1, hgb2, hgb3, hal, g66, g69, g74, g77, g82, g87] <;> rfl) (by rfl) (fun g90 => ?_) (fun g90 => ?_)
                                · try (exfalso; revert g90; simp; done)
                                  all_goals
                                    have g90' := g90; first | simp only [dT, dF] at g90' | try simp at g90'
                                    refine WpO.run tabOk 6 (by simp -implicitDefEqProofs [ln0, mcP, mcO, -List.reduceReplicate, thC_len, thC_below, hnil, d28, hlt, hkl, hgk, hg1, hk1, hth, hth2, hgb1, hgb2, hgb3, hal, g66, g69, g74, g77, g82, g87, g90] <;> first | exact ⟨rfl, rfl⟩ | rfl) ?_
                                    refine WpO.splitB 96 (by simp -implicitDefEqProofs [ln0, mcP, mcO, -List.reduceReplicate, thC_len, thC_below, hnil, d28, hlt, hkl, hgk, hg1, hk1, hth, hth2, hgb1, hgb2, hgb3, hal, g66, g69, g74, g77, g82, g87, g90] <;> rfl) (by rfl) (fun g96 => ?_) (fun g96 => ?_)
                                    · try (exfalso; revert g96; simp; done)
                                      all_goals
                                        have g96' := g96; first | simp only [dT, dF] at g96' | try simp at g96'
                                        refine WpO.run tabOk 4 (by simp -implicitDefEqProofs [ln0, mcP, mcO, -List.reduceReplicate, thC_len, thC_below, hnil, d28, hlt, hkl, hgk, hg1, hk1, hth, hth2, hgb1, hgb2, hgb3, hal, g66, g69, g74, g77, g82, g87, g90, g96] <;> first | exact ⟨rfl, rfl⟩ | rfl) ?_
                                        refine WpO.splitB 100 (by simp -implicitDefEqProofs [ln0, mcP, mcO, -List.reduceReplicate, thC_len, thC_below, hnil, d28, hlt, hkl, hgk, hg1, hk1, hth, hth2, hgb1, hgb2, hgb3, hal, g66, g69, g74, g77, g82, g87, g90, g96] <;> rfl) (by rfl) (fun g100 => ?_) (fun g100 => ?_)
                                        · try (exfalso; revert g100; simp; done)
                                          all_goals
                                            have g100' := g100; first | simp only [dT, dF] at g100' | try simp at g100'
                                            refine WpO.run tabOk 4 (by simp -implicitDefEqProofs [ln0, mcP, mcO, -List.reduceReplicate, thC_len, thC_below, hnil, d28, hlt, hkl, hgk, hg1, hk1, hth, hth2, hgb1, hgb2, hgb3, hal, g66, g69, g74, g77, g82, g87, g90, g96, g100] <;> first | exact ⟨rfl, rfl⟩ | rfl) ?_
                                            refine WpO.nil ?_
                                            refine ⟨rfl, Gh.only 104 52 ?_ (by first | rfl | simp -implicitDefEqProofs [ln0, mcP, mcO, -List.reduceReplicate, thC_len, thC_below, hnil, d28, hlt, hkl, hgk, hg1, hk1, hth, hth2, hgb1, hgb2, hgb3, hal, g66, g69, g74, g77, g82, g87, g90, g96, g100]) (by rfl)⟩
                                            all_goals (clear hc hth hth2 hg hnil h1 h1' hgk hg1 hk1; rcases hcs with ⟨q1, q2⟩ | ⟨q1, q2, q3⟩ | ⟨q1, q2, q3, q4⟩ | ⟨q1, q2, q3, q4⟩ <;> simp_all <;> omega)
                                        · try (exfalso; revert g100; simp; done)
                                          all_goals
                                            have g100' := g100; first | simp only [dT, dF] at g100' | try simp at g100'
                                            refine WpO.run tabOk 4 (by simp -implicitDefEqProofs [ln0, mcP, mcO, -List.reduceReplicate, thC_len, thC_below, hnil, d28, hlt, hkl, hgk, hg1, hk1, hth, hth2, hgb1, hgb2, hgb3, hal, g66, g69, g74, g77, g82, g87, g90, g96, g100] <;> first | exact ⟨rfl, rfl⟩ | rfl) ?_
                                            refine WpO.nil ?_
                                            refine ⟨rfl, Gh.only 104 52 ?_ (by first | rfl | simp -implicitDefEqProofs [ln0, mcP, mcO, -List.reduceReplicate, thC_len, thC_below, hnil, d28, hlt, hkl, hgk, hg1, hk1, hth, hth2, hgb1, hgb2, hgb3, hal, g66, g69, g74, g77, g82, g87, g90, g96, g100]) (by rfl)⟩
                                            all_goals (clear hc hth hth2 hg hnil h1 h1' hgk hg1 hk1; rcases hcs with ⟨q1, q2⟩ | ⟨q1, q2, q3⟩ | ⟨q1, q2, q3, q4⟩ | ⟨q1, q2, q3, q4⟩ <;> simp_all <;> omega)
                                    · try (exfalso; revert g96; simp; done)
                                      all_goals
                                        have g96' := g96; first | simp only [dT, dF] at g96' | try simp at g96'
                                        refine WpO.run tabOk 8 (by simp -implicitDefEqProofs [ln0, mcP, mcO, -List.reduceReplicate, thC_len, thC_below, hnil, d28, hlt, hkl, hgk, hg1, hk1, hth, hth2, hgb1, hgb2, hgb3, hal, g66, g69, g74, g77, g82, g87, g90, g96] <;> first | exact ⟨rfl, rfl⟩ | rfl) ?_
                                        refine WpO.nil ?_
                                        refine ⟨rfl, Gh.only 104 51 ?_ (by first | rfl | simp -implicitDefEqProofs [ln0, mcP, mcO, -List.reduceReplicate, thC_len, thC_below, hnil, d28, hlt, hkl, hgk, hg1, hk1, hth, hth2, hgb1, hgb2, hgb3, hal, g66, g69, g74, g77, g82, g87, g90, g96]) (by rfl)⟩
                                        all_goals (clear hc hth hth2 hg hnil h1 h1' hgk hg1 hk1; rcases hcs with ⟨q1, q2⟩ | ⟨q1, q2, q3⟩ | ⟨q1, q2, q3, q4⟩ | ⟨q1, q2, q3, q4⟩ <;> simp_all <;> omega)
                                · try (exfalso; revert g90; simp; done)
                                  all_goals
                                    have g90' := g90; first | simp only [dT, dF] at g90' | try simp at g90'
                                    refine WpO.run tabOk 14 (by simp -implicitDefEqProofs [ln0, mcP, mcO, -List.reduceReplicate, thC_len, thC_below, hnil, d28, hlt, hkl, hgk, hg1, hk1, hth, hth2, hgb1, hgb2, hgb3, hal, g66, g69, g74, g77, g82, g87, g90] <;> first | exact ⟨rfl, rfl⟩ | rfl) ?_
                                    refine WpO.nil ?_
                                    refine ⟨rfl, Gh.only 104 50 ?_ (by first | rfl | simp -implicitDefEqProofs [ln0, mcP, mcO, -List.reduceReplicate, thC_len, thC_below, hnil, d28, hlt, hkl, hgk, hg1, hk1, hth, hth2, hgb1, hgb2, hgb3, hal, g66, g69, g74, g77, g82, g87, g90]) (by rfl)⟩
                                    all_goals (clear hc hth hth2 hg hnil h1 h1' hgk hg1 hk1; rcases hcs with ⟨q1, q2⟩ | ⟨q1, q2, q3⟩ | ⟨q1, q2, q3, q4⟩ | ⟨q1, q2, q3, q4⟩ <;> simp_all <;> omega)
                        · try (exfalso; revert g82; simp; done)
                          all_goals
                            have g82' := g82; first | simp only [dT, dF] at g82' | try simp at g82'
                            refine WpO.run tabOk 8 (by simp -implicitDefEqProofs [ln0, mcP, mcO, -List.reduceReplicate, thC_len, thC_below, hnil, d28, hlt, hkl, hgk, hg1, hk1, hth, hth2, hgb1, hgb2, hgb3, hal, g66, g69, g74, g77, g82] <;> first | exact ⟨rfl, rfl⟩ | rfl) ?_
                            refine WpO.splitB 90 (by simp -implicitDefEqProofs [ln0, mcP, mcO, -List.reduceReplicate, thC_len, thC_below, hnil, d28, hlt, hkl, hgk, hg1, hk1, hth, hth2, hgb1, hgb2, hgb3, hal, g66, g69, g74, g77, g82] <;> rfl) (by rfl) (fun g90 => ?_) (fun g90 => ?_)
                            · try (exfalso; revert g90; simp; done)
                              all_goals
                                have g90' := g90; first | simp only [dT, dF] at g90' | try simp at g90'
                                refine WpO.run tabOk 6 (by simp -implicitDefEqProofs [ln0, mcP, mcO, -List.reduceReplicate, thC_len, thC_below, hnil, d28, hlt, hkl, hgk, hg1, hk1, hth, hth2, hgb1, hgb2, hgb3, hal, g66, g69, g74, g77, g82, g90] <;> first | exact ⟨rfl, rfl⟩ | rfl) ?_
                                refine WpO.splitB 96 (by simp -implicitDefEqProofs [ln0, mcP, mcO, -List.reduceReplicate, thC_len, thC_below, hnil, d28, hlt, hkl, hgk, hg1, hk1, hth, hth2, hgb1, hgb2, hgb3, hal, g66, g69, g74, g77, g82, g90] <;> rfl) (by rfl) (fun g96 => ?_) (fun g96 => ?_)
                                · try (exfalso; revert g96; simp; done)
                                  all_goals
                                    have g96' := g96; first | simp only [dT, dF] at g96' | try simp at g96'
                                    refine WpO.run tabOk 4 (by simp -implicitDefEqProofs [ln0, mcP, mcO, -List.reduceReplicate, thC_len, thC_below, hnil, d28, hlt, hkl, hgk, hg1, hk1, hth, hth2, hgb1, hgb2, hgb3, hal, g66, g69, g74, g77, g82, g90, g96] <;> first | exact ⟨rfl, rfl⟩ | rfl) ?_
                                    refine WpO.splitB 100 (by simp -implicitDefEqProofs [ln0, mcP, mcO, -List.reduceReplicate, thC_len, thC_below, hnil, d28, hlt, hkl, hgk, hg1, hk1, hth, hth2, hgb1, hgb2, hgb3, hal, g66, g69, g74, g77, g82, g90, g96] <;> rfl) (by rfl) (fun g100 => ?_) (fun g100 => ?_)
                                    · try (exfalso; revert g100; simp; done)
                                      all_goals
                                        have g100' := g100; first | simp only [dT, dF] at g100' | try simp at g100'
                                        refine WpO.run tabOk 4 (by simp -implicitDefEqProofs [ln0, mcP, mcO, -List.reduceReplicate, thC_len, thC_below, hnil, d28, hlt, hkl, hgk, hg1, hk1, hth, hth2, hgb1, hgb2, hgb3, hal, g66, g69, g74, g77, g82, g90, g96, g100] <;> first | exact ⟨rfl, rfl⟩ | rfl) ?_
                                        refine WpO.nil ?_
                                        refine ⟨rfl, Gh.only 104 51 ?_ (by first | rfl | simp -implicitDefEqProofs [ln0, mcP, mcO, -List.reduceReplicate, thC_len, thC_below, hnil, d28, hlt, hkl, hgk, hg1, hk1, hth, hth2, hgb1, hgb2, hgb3, hal, g66, g69, g74, g77, g82, g90, g96, g100]) (by rfl)⟩
                                        all_goals (clear hc hth hth2 hg hnil h1 h1' hgk hg1 hk1; rcases hcs with ⟨q1, q2⟩ | ⟨q1, q2, q3⟩ | ⟨q1, q2, q3, q4⟩ | ⟨q1, q2, q3, q4⟩ <;> simp_all <;> omega)
                                    · try (exfalso; revert g100; simp; done)
                                      all_goals
                                        have g100' := g100; first | simp only [dT, dF] at g100' | try simp at g100'
                                        refine WpO.run tabOk 4 (by simp -implicitDefEqProofs [ln0, mcP, mcO, -List.reduceReplicate, thC_len, thC_below, hnil, d28, hlt, hkl, hgk, hg1, hk1, hth, hth2, hgb1, hgb2, hgb3, hal, g66, g69, g74, g77, g82, g90, g96, g100] <;> first | exact ⟨rfl, rfl⟩ | rfl) ?_
                                        refine WpO.nil ?_
                                        refine ⟨rfl, Gh.only 104 51 ?_ (by first | rfl | simp -implicitDefEqProofs [ln0, mcP, mcO, -List.reduceReplicate, thC_len, thC_below, hnil, d28, hlt, hkl, hgk, hg1, hk1, hth, hth2, hgb1, hgb2, hgb3, hal, g66, g69, g74, g77, g82, g90, g96, g100]) (by rfl)⟩
                                        all_goals (clear hc hth hth2 hg hnil h1 h1' hgk hg1 hk1; rcases hcs with ⟨q1, q2⟩ | ⟨q1, q2, q3⟩ | ⟨q1, q2, q3, q4⟩ | ⟨q1, q2, q3, q4⟩ <;> simp_all <;> omega)
                                · try (exfalso; revert g96; simp; done)
                                  all_goals
                                    have g96' := g96; first | simp only [dT, dF] at g96' | try simp at g96'
                                    refine WpO.run tabOk 8 (by simp -implicitDefEqProofs [ln0, mcP, mcO, -List.reduceReplicate, thC_len, thC_below, hnil, d28, hlt, hkl, hgk, hg1, hk1, hth, hth2, hgb1, hgb2, hgb3, hal, g66, g69, g74, g77, g82, g90, g96] <;> first | exact ⟨rfl, rfl⟩ | rfl) ?_
                                    refine WpO.nil ?_
                                    refine ⟨rfl, Gh.only 104 50 ?_ (by first | rfl | simp -implicitDefEqProofs [ln0, mcP, mcO, -List.reduceReplicate, thC_len, thC_below, hnil, d28, hlt, hkl, hgk, hg1, hk1, hth, hth2, hgb1, hgb2, hgb3, hal, g66, g69, g74, g77, g82, g90, g96]) (by rfl)⟩
                                    all_goals (clear hc hth hth2 hg hnil h1 h1' hgk hg1 hk1; rcases hcs with ⟨q1, q2⟩ | ⟨q1, q2, q3⟩ | ⟨q1, q2, q3, q4⟩ | ⟨q1, q2, q3, q4⟩ <;> simp_all <;> omega)
                            · try (exfalso; revert g90; simp; done)
                              all_goals
                                have g90' := g90; first | simp only [dT, dF] at g90' | try simp at g90'
                                refine WpO.run tabOk 14 (by simp -implicitDefEqProofs [ln0, mcP, mcO, -List.reduceReplicate, thC_len, thC_below, hnil, d28, hlt, hkl, hgk, hg1, hk1, hth, hth2, hgb1, hgb2, hgb3, hal, g66, g69, g74, g77, g82, g90] <;> first | exact ⟨rfl, rfl⟩ | rfl) ?_
                                refine WpO.nil ?_
                                refine ⟨rfl, Gh.only 104 49 ?_ (by first | rfl | simp -implicitDefEqProofs [ln0, mcP, mcO, -List.reduceReplicate, thC_len, thC_below, hnil, d28, hlt, hkl, hgk, hg1, hk1, hth, hth2, hgb1, hgb2, hgb3, hal, g66, g69, g74, g77, g82, g90]) (by rfl)⟩
                                all_goals (clear hc hth hth2 hg hnil h1 h1' hgk hg1 hk1; rcases hcs with ⟨q1, q2⟩ | ⟨q1, q2, q3⟩ | ⟨q1, q2, q3, q4⟩ | ⟨q1, q2, q3, q4⟩ <;> simp_all <;> omega)
                    · try (exfalso; revert g77; simp; done)
                      all_goals
                        have g77' := g77; first | simp only [dT, dF] at g77' | try simp at g77'
                        refine WpO.run tabOk 13 (by simp -implicitDefEqProofs [ln0, mcP, mcO, -List.reduceReplicate, thC_len, thC_below, hnil, d28, hlt, hkl, hgk, hg1, hk1, hth, hth2, hgb1, hgb2, hgb3, hal, g66, g69, g74, g77] <;> first | exact ⟨rfl, rfl⟩ | rfl) ?_
                        refine WpO.splitB 90 (by simp -implicitDefEqProofs [ln0, mcP, mcO, -List.reduceReplicate, thC_len, thC_below, hnil, d28, hlt, hkl, hgk, hg1, hk1, hth, hth2, hgb1, hgb2, hgb3, hal, g66, g69, g74, g77] <;> rfl) (by rfl) (fun g90 => ?_) (fun g90 => ?_)
                        · try (exfalso; revert g90; simp; done)
                          all_goals
                            have g90' := g90; first | simp only [dT, dF] at g90' | try simp at g90'
                            refine WpO.run tabOk 6 (by simp -implicitDefEqProofs [ln0, mcP, mcO, -List.reduceReplicate, thC_len, thC_below, hnil, d28, hlt, hkl, hgk, hg1, hk1, hth, hth2, hgb1, hgb2, hgb3, hal, g66, g69, g74, g77, g90] <;> first | exact ⟨rfl, rfl⟩ | rfl) ?_
                            refine WpO.splitB 96 (by simp -implicitDefEqProofs [ln0, mcP, mcO, -List.reduceReplicate, thC_len, thC_below, hnil, d28, hlt, hkl, hgk, hg1, hk1, hth, hth2, hgb1, hgb2, hgb3, hal, g66, g69, g74, g77, g90] <;> rfl) (by rfl) (fun g96 => ?_) (fun g96 => ?_)
                            · try (exfalso; revert g96; simp; done)
                              all_goals
                                have g96' := g96; first | simp only [dT, dF] at g96' | try simp at g96'
                                refine WpO.run tabOk 4 (by simp -implicitDefEqProofs [ln0, mcP, mcO, -List.reduceReplicate, thC_len, thC_below, hnil, d28, hlt, hkl, hgk, hg1, hk1, hth, hth2, hgb1, hgb2, hgb3, hal, g66, g69, g74, g77, g90, g96] <;> first | exact ⟨rfl, rfl⟩ | rfl) ?_
                                refine WpO.splitB 100 (by simp -implicitDefEqProofs [ln0, mcP, mcO, -List.reduceReplicate, thC_len, thC_below, hnil, d28, hlt, hkl, hgk, hg1, hk1, hth, hth2, hgb1, hgb2, hgb3, hal, g66, g69, g74, g77, g90, g96] <;> rfl) (by rfl) (fun g100 => ?_) (fun g100 => ?_)
                                · try (exfalso; revert g100; simp; done)
                                  all_goals
                                    have g100' := g100; first | simp only [dT, dF] at g100' | try simp at g100'
                                    refine WpO.run tabOk 4 (by simp -implicitDefEqProofs [ln0, mcP, mcO, -List.reduceReplicate, thC_len, thC_below, hnil, d28, hlt, hkl, hgk, hg1, hk1, hth, hth2, hgb1, hgb2, hgb3, hal, g66, g69, g74, g77, g90, g96, g100] <;> first | exact ⟨rfl, rfl⟩ | rfl) ?_
                                    refine WpO.nil ?_
                                    refine ⟨rfl, Gh.only 104 50 ?_ (by first | rfl | simp -implicitDefEqProofs [ln0, mcP, mcO, -List.reduceReplicate, thC_len, thC_below, hnil, d28, hlt, hkl, hgk, hg1, hk1, hth, hth2, hgb1, hgb2, hgb3, hal, g66, g69, g74, g77, g90, g96, g100]) (by rfl)⟩
                                    all_goals (clear hc hth hth2 hg hnil h1 h1' hgk hg1 hk1; rcases hcs with ⟨q1, q2⟩ | ⟨q1, q2, q3⟩ | ⟨q1, q2, q3, q4⟩ | ⟨q1, q2, q3, q4⟩ <;> simp_all <;> omega)
                                · try (exfalso; revert g100; simp; done)
                                  all_goals
                                    have g100' := g100; first | simp only [dT, dF] at g100' | try simp at g100'
                                    refine WpO.run tabOk 4 (by simp -implicitDefEqProofs [ln0, mcP, mcO, -List.reduceReplicate, thC_len, thC_below, hnil, d28, hlt, hkl, hgk, hg1, hk1, hth, hth2, hgb1, hgb2, hgb3, hal, g66, g69, g74, g77, g90, g96, g100] <;> first | exact ⟨rfl, rfl⟩ | rfl) ?_
                                    refine WpO.nil ?_
                                    refine ⟨rfl, Gh.only 104 50 ?_ (by first | rfl | simp -implicitDefEqProofs [ln0, mcP, mcO, -List.reduceReplicate, thC_len, thC_below, hnil, d28, hlt, hkl, hgk, hg1, hk1, hth, hth2, hgb1, hgb2, hgb3, hal, g66, g69, g74, g77, g90, g96, g100]) (by rfl)⟩
                                    all_goals (clear hc hth hth2 hg hnil h1 h1' hgk hg1 hk1; rcases hcs with ⟨q1, q2⟩ | ⟨q1, q2, q3⟩ | ⟨q1, q2, q3, q4⟩ | ⟨q1, q2, q3, q4⟩ <;> simp_all <;> omega)
                            · try (exfalso; revert g96; simp; done)
                              all_goals
                                have g96' := g96; first | simp only [dT, dF] at g96' | try simp at g96'
                                refine WpO.run tabOk 8 (by simp -implicitDefEqProofs [ln0, mcP, mcO, -List.reduceReplicate, thC_len, thC_below, hnil, d28, hlt, hkl, hgk, hg1, hk1, hth, hth2, hgb1, hgb2, hgb3, hal, g66, g69, g74, g77, g90, g96] <;> first | exact ⟨rfl, rfl⟩ | rfl) ?_
                                refine WpO.nil ?_
                                refine ⟨rfl, Gh.only 104 49 ?_ (by first | rfl | simp -implicitDefEqProofs [ln0, mcP, mcO, -List.reduceReplicate, thC_len, thC_below, hnil, d28, hlt, hkl, hgk, hg1, hk1, hth, hth2, hgb1, hgb2, hgb3, hal, g66, g69, g74, g77, g90, g96]) (by rfl)⟩
                                all_goals (clear hc hth hth2 hg hnil h1 h1' hgk hg1 hk1; rcases hcs with ⟨q1, q2⟩ | ⟨q1, q2, q3⟩ | ⟨q1, q2, q3, q4⟩ | ⟨q1, q2, q3, q4⟩ <;> simp_all <;> omega)
                        · try (exfalso; revert g90; simp; done)
                          all_goals
                            have g90' := g90; first | simp only [dT, dF] at g90' | try simp at g90'
                            refine WpO.run tabOk 14 (by simp -implicitDefEqProofs [ln0, mcP, mcO, -List.reduceReplicate, thC_len, thC_below, hnil, d28, hlt, hkl, hgk, hg1, hk1, hth, hth2, hgb1, hgb2, hgb3, hal, g66, g69, g74, g77, g90] <;> first | exact ⟨rfl, rfl⟩ | rfl) ?_
                            refine WpO.nil ?_
                            refine ⟨rfl, Gh.only 104 48 ?_ (by first | rfl | simp -implicitDefEqProofs [ln0, mcP, mcO, -List.reduceReplicate, thC_len, thC_below, hnil, d28, hlt, hkl, hgk, hg1, hk1, hth, hth2, hgb1, hgb2, hgb3, hal, g66, g69, g74, g77, g90]) (by rfl)⟩
                            all_goals (clear hc hth hth2 hg hnil h1 h1' hgk hg1 hk1; rcases hcs with ⟨q1, q2⟩ | ⟨q1, q2, q3⟩ | ⟨q1, q2, q3, q4⟩ | ⟨q1, q2, q3, q4⟩ <;> simp_all <;> omega)
            · try (exfalso; revert g69; simp; done)
              all_goals
                have g69' := g69; first | simp only [dT, dF] at g69' | try simp at g69'
                refine WpO.run tabOk 8 (by simp -implicitDefEqProofs [ln0, mcP, mcO, -List.reduceReplicate, thC_len, thC_below, hnil, d28, hlt, hkl, hgk, hg1, hk1, hth, hth2, hgb1, hgb2, hgb3, hal, g66, g69] <;> first | exact ⟨rfl, rfl⟩ | rfl) ?_
                refine WpO.splitB 77 (by simp -implicitDefEqProofs [ln0, mcP, mcO, -List.reduceReplicate, thC_len, thC_below, hnil, d28, hlt, hkl, hgk, hg1, hk1, hth, hth2, hgb1, hgb2, hgb3, hal, g66, g69] <;> rfl) (by rfl) (fun g77 => ?_) (fun g77 => ?_)
                · try (exfalso; revert g77; simp; done)
                  all_goals
                    have g77' := g77; first | simp only [dT, dF] at g77' | try simp at g77'
                    refine WpO.run tabOk 5 (by simp -implicitDefEqProofs [ln0, mcP, mcO, -List.reduceReplicate, thC_len, thC_below, hnil, d28, hlt, hkl, hgk, hg1, hk1, hth, hth2, hgb1, hgb2, hgb3, hal, g66, g69, g77] <;> first | exact ⟨rfl, rfl⟩ | rfl) ?_
                    refine WpO.splitB 82 (by simp -implicitDefEqProofs [ln0, mcP, mcO, -List.reduceReplicate, thC_len, thC_below, hnil, d28, hlt, hkl, hgk, hg1, hk1, hth, hth2, hgb1, hgb2, hgb3, hal, g66, g69, g77] <;> rfl) (by rfl) (fun g82 => ?_) (fun g82 => ?_)
                    · try (exfalso; revert g82; simp; done)
                      all_goals
                        have g82' := g82; first | simp only [dT, dF] at g82' | try simp at g82'
                        refine WpO.run tabOk 5 (by simp -implicitDefEqProofs [ln0, mcP, mcO, -List.reduceReplicate, thC_len, thC_below, hnil, d28, hlt, hkl, hgk, hg1, hk1, hth, hth2, hgb1, hgb2, hgb3, hal, g66, g69, g77, g82] <;> first | exact ⟨rfl, rfl⟩ | rfl) ?_
                        refine WpO.splitB 87 (by simp -implicitDefEqProofs [ln0, mcP, mcO, -List.reduceReplicate, thC_len, thC_below, hnil, d28, hlt, hkl, hgk, hg1, hk1, hth, hth2, hgb1, hgb2, hgb3, hal, g66, g69, g77, g82] <;> rfl) (by rfl) (fun g87 => ?_) (fun g87 => ?_)
                        · try (exfalso; revert g87; simp; done)
                          all_goals
                            have g87' := g87; first | simp only [dT, dF] at g87' | try simp at g87'
                            refine WpO.run tabOk 17 (by simp -implicitDefEqProofs [ln0, mcP, mcO, -List.reduceReplicate, thC_len, thC_below, hnil, d28, hlt, hkl, hgk, hg1, hk1, hth, hth2, hgb1, hgb2, hgb3, hal, g66, g69, g77, g82, g87] <;> first | exact ⟨rfl, rfl⟩ | rfl) ?_
                            refine WpO.nil ?_
                            refine ⟨rfl, Gh.only 104 48 ?_ (by first | rfl | simp -implicitDefEqProofs [ln0, mcP, mcO, -List.reduceReplicate, thC_len, thC_below, hnil, d28, hlt, hkl, hgk, hg1, hk1, hth, hth2, hgb1, hgb2, hgb3, hal, g66, g69, g77, g82, g87]) (by rfl)⟩
                            all_goals (clear hc hth hth2 hg hnil h1 h1' hgk hg1 hk1; rcases hcs with ⟨q1, q2⟩ | ⟨q1, q2, q3⟩ | ⟨q1, q2, q3, q4⟩ | ⟨q1, q2, q3, q4⟩ <;> simp_all <;> omega)
                        · try (exfalso; revert g87; simp; done)
                          all_goals
                            have g87' := g87; first | simp only [dT, dF] at g87' | try simp at g87'
                            refine WpO.run tabOk 3 (by simp -implicitDefEqProofs [ln0, mcP, mcO, -List.reduceReplicate, thC_len, thC_below, hnil, d28, hlt, hkl, hgk, hg1, hk1, hth, hth2, hgb1, hgb2, hgb3, hal, g66, g69, g77, g82, g87] <;> first | exact ⟨rfl, rfl⟩ | rfl) ?_
                            refine WpO.splitB 90 (by simp -implicitDefEqProofs [ln0, mcP, mcO, -List.reduceReplicate, thC_len, thC_below, hnil, d28, hlt, hkl, hgk, hg1, hk1, hth, hth2, hgb1, hgb2, hgb3, hal, g66, g69, g77, g82, g87] <;> rfl) (by rfl) (fun g90 => ?_) (fun g90 => ?_)
                            · try (exfalso; revert g90; simp; done)
                              all_goals
                                have g90' := g90; first | simp only [dT, dF] at g90' | try simp at g90'
                                refine WpO.run tabOk 6 (by simp -implicitDefEqProofs [ln0, mcP, mcO, -List.reduceReplicate, thC_len, thC_below, hnil, d28, hlt, hkl, hgk, hg1, hk1, hth, hth2, hgb1, hgb2, hgb3, hal, g66, g69, g77, g82, g87, g90] <;> first | exact ⟨rfl, rfl⟩ | rfl) ?_
                                refine WpO.splitB 96 (by simp -implicitDefEqProofs [ln0, mcP, mcO, -List.reduceReplicate, thC_len, thC_below, hnil, d28, hlt, hkl, hgk, hg1, hk1, hth, hth2, hgb1, hgb2, hgb3, hal, g66, g69, g77, g82, g87, g90] <;> rfl) (by rfl) (fun g96 => ?_) (fun g96 => ?_)
                                · try (exfalso; revert g96; simp; done)
                                  all_goals
                                    have g96' := g96; first | simp only [dT, dF] at g96' | try simp at g96'
                                    refine WpO.run tabOk 4 (by simp -implicitDefEqProofs [ln0, mcP, mcO, -List.reduceReplicate, thC_len, thC_below, hnil, d28, hlt, hkl, hgk, hg1, hk1, hth, hth2, hgb1, hgb2, hgb3, hal, g66, g69, g77, g82, g87, g90, g96] <;> first | exact ⟨rfl, rfl⟩ | rfl) ?_
                                    refine WpO.splitB 100 (by simp -implicitDefEqProofs [ln0, mcP, mcO, -List.reduceReplicate, thC_len, thC_below, hnil, d28, hlt, hkl, hgk, hg1, hk1, hth, hth2, hgb1, hgb2, hgb3, hal, g66, g69, g77, g82, g87, g90, g96] <;> rfl) (by rfl) (fun g100 => ?_) (fun g100 => ?_)
                                    · try (exfalso; revert g100; simp; done)
                                      all_goals
                                        have g100' := g100; first | simp only [dT, dF] at g100' | try simp at g100'
                                        refine WpO.run tabOk 4 (by simp -implicitDefEqProofs [ln0, mcP, mcO, -List.reduceReplicate, thC_len, thC_below, hnil, d28, hlt, hkl, hgk, hg1, hk1, hth, hth2, hgb1, hgb2, hgb3, hal, g66, g69, g77, g82, g87, g90, g96, g100] <;> first | exact ⟨rfl, rfl⟩ | rfl) ?_
                                        refine WpO.nil ?_
                                        refine ⟨rfl, Gh.only 104 51 ?_ (by first | rfl | simp -implicitDefEqProofs [ln0, mcP, mcO, -List.reduceReplicate, thC_len, thC_below, hnil, d28, hlt, hkl, hgk, hg1, hk1, hth, hth2, hgb1, hgb2, hgb3, hal, g66, g69, g77, g82, g87, g90, g96, g100]) (by rfl)⟩
                                        all_goals (clear hc hth hth2 hg hnil h1 h1' hgk hg1 hk1; rcases hcs with ⟨q1, q2⟩ | ⟨q1, q2, q3⟩ | ⟨q1, q2, q3, q4⟩ | ⟨q1, q2, q3, q4⟩ <;> simp_all <;> omega)
                                    · try (exfalso; revert g100; simp; done)
                                      all_goals
                                        have g100' := g100; first | simp only [dT, dF] at g100' | try simp at g100'
                                        refine WpO.run tabOk 4 (by simp -implicitDefEqProofs [ln0, mcP, mcO, -List.reduceReplicate, thC_len, thC_below, hnil, d28, hlt, hkl, hgk, hg1, hk1, hth, hth2, hgb1, hgb2, hgb3, hal, g66, g69, g77, g82, g87, g90, g96, g100] <;> first | exact ⟨rfl, rfl⟩ | rfl) ?_
                                        refine WpO.nil ?_
                                        refine ⟨rfl, Gh.only 104 51 ?_ (by first | rfl | simp -implicitDefEqProofs [ln0, mcP, mcO, -List.reduceReplicate, thC_len, thC_below, hnil, d28, hlt, hkl, hgk, hg1, hk1, hth, hth2, hgb1, hgb2, hgb3, hal, g66, g69, g77, g82, g87, g90, g96, g100]) (by rfl)⟩
                                        all_goals (clear hc hth hth2 hg hnil h1 h1' hgk hg1 hk1; rcases hcs with ⟨q1, q2⟩ | ⟨q1, q2, q3⟩ | ⟨q1, q2, q3, q4⟩ | ⟨q1, q2, q3, q4⟩ <;> simp_all <;> omega)
                                · try (exfalso; revert g96; simp; done)
                                  all_goals
                                    have g96' := g96; first | simp only [dT, dF] at g96' | try simp at g96'
                                    refine WpO.run tabOk 8 (by simp -implicitDefEqProofs [ln0, mcP, mcO, -List.reduceReplicate, thC_len, thC_below, hnil, d28, hlt, hkl, hgk, hg1, hk1, hth, hth2, hgb1, hgb2, hgb3, hal, g66, g69, g77, g82, g87, g90, g96] <;> first | exact ⟨rfl, rfl⟩ | rfl) ?_
                                    refine WpO.nil ?_
                                    refine ⟨rfl, Gh.only 104 50 ?_ (by first | rfl | simp -implicitDefEqProofs [ln0, mcP, mcO, -List.reduceReplicate, thC_len, thC_below, hnil, d28, hlt, hkl, hgk, hg1, hk1, hth, hth2, hgb1, hgb2, hgb3, hal, g66, g69, g77, g82, g87, g90, g96]) (by rfl)⟩
                                    all_goals (clear hc hth hth2 hg hnil h1 h1' hgk hg1 hk1; rcases hcs with ⟨q1, q2⟩ | ⟨q1, q2, q3⟩ | ⟨q1, q2, q3, q4⟩ | ⟨q1, q2, q3, q4⟩ <;> simp_all <;> omega)
                            · try (exfalso; revert g90; simp; done)
                              all_goals
                                have g90' := g90; first | simp only [dT, dF] at g90' | try simp at g90'
                                refine WpO.run tabOk 14 (by simp -implicitDefEqProofs [ln0, mcP, mcO, -List.reduceReplicate, thC_len, thC_below, hnil, d28, hlt, hkl, hgk, hg1, hk1, hth, hth2, hgb1, hgb2, hgb3, hal, g66, g69, g77, g82, g87, g90] <;> first | exact ⟨rfl, rfl⟩ | rfl) ?_
                                refine WpO.nil ?_
                                refine ⟨rfl, Gh.only 104 49 ?_ (by first | rfl | simp -implicitDefEqProofs [ln0, mcP, mcO, -List.reduceReplicate, thC_len, thC_below, hnil, d28, hlt, hkl, hgk, hg1, hk1, hth, hth2, hgb1, hgb2, hgb3, hal, g66, g69, g77, g82, g87, g90]) (by rfl)⟩
                                all_goals (clear hc hth hth2 hg hnil h1 h1' hgk hg1 hk1; rcases hcs with ⟨q1, q2⟩ | ⟨q1, q2, q3⟩ | ⟨q1, q2, q3, q4⟩ | ⟨q1, q2, q3, q4⟩ <;> simp_all <;> omega)
                    · try (exfalso; revert g82; simp; done)
                      all_goals
                        have g82' := g82; first | simp only [dT, dF] at g82' | try simp at g82'
                        refine WpO.run tabOk 8 (by simp -implicitDefEqProofs [ln0, mcP, mcO, -List.reduceReplicate, thC_len, thC_below, hnil, d28, hlt, hkl, hgk, hg1, hk1, hth, hth2, hgb1, hgb2, hgb3, hal, g66, g69, g77, g82] <;> first | exact ⟨rfl, rfl⟩ | rfl) ?_
                        refine WpO.splitB 90 (by simp -implicitDefEqProofs [ln0, mcP, mcO, -List.reduceReplicate, thC_len, thC_below, hnil, d28, hlt, hkl, hgk, hg1, hk1, hth, hth2, hgb1, hgb2, hgb3, hal, g66, g69, g77, g82] <;> rfl) (by rfl) (fun g90 => ?_) (fun g90 => ?_)
                        · try (exfalso; revert g90; simp; done)
                          all_goals
                            have g90' := g90; first | simp only [dT, dF] at g90' | try simp at g90'
                            refine WpO.run tabOk 6 (by simp -implicitDefEqProofs [ln0, mcP, mcO, -List.reduceReplicate, thC_len, thC_below, hnil, d28, hlt, hkl, hgk, hg1, hk1, hth, hth2, hgb1, hgb2, hgb3, hal, g66, g69, g77, g82, g90] <;> first | exact ⟨rfl, rfl⟩ | rfl) ?_
                            refine WpO.splitB 96 (by simp -implicitDefEqProofs [ln0, mcP, mcO, -List.reduceReplicate, thC_len, thC_below, hnil, d28, hlt, hkl, hgk, hg1, hk1, hth, hth2, hgb1, hgb2, hgb3, hal, g66, g69, g77, g82, g90] <;> rfl) (by rfl) (fun g96 => ?_) (fun g96 => ?_)
                            · try (exfalso; revert g96; simp; done)
                              all_goals
                                have g96' := g96; first | simp only [dT, dF] at g96' | try simp at g96'
                                refine WpO.run tabOk 4 (by simp -implicitDefEqProofs [ln0, mcP, mcO, -List.reduceReplicate, thC_len, thC_below, hnil, d28, hlt, hkl, hgk, hg1, hk1, hth, hth2, hgb1, hgb2, hgb3, hal, g66, g69, g77, g82, g90, g96] <;> first | exact ⟨rfl, rfl⟩ | rfl) ?_
                                refine WpO.splitB 100 (by simp -implicitDefEqProofs [ln0, mcP, mcO, -List.reduceReplicate, thC_len, thC_below, hnil, d28, hlt, hkl, hgk, hg1, hk1, hth, hth2, hgb1, hgb2, hgb3, hal, g66, g69, g77, g82, g90, g96] <;> rfl) (by rfl) (fun g100 => ?_) (fun g100 => ?_)
                                · try (exfalso; revert g100; simp; done)
                                  all_goals
                                    have g100' := g100; first | simp only [dT, dF] at g100' | try simp at g100'
                                    refine WpO.run tabOk 4 (by simp -implicitDefEqProofs [ln0, mcP, mcO, -List.reduceReplicate, thC_len, thC_below, hnil, d28, hlt, hkl, hgk, hg1, hk1, hth, hth2, hgb1, hgb2, hgb3, hal, g66, g69, g77, g82, g90, g96, g100] <;> first | exact ⟨rfl, rfl⟩ | rfl) ?_
                                    refine WpO.nil ?_
                                    refine ⟨rfl, Gh.only 104 50 ?_ (by first | rfl | simp -implicitDefEqProofs [ln0, mcP, mcO, -List.reduceReplicate, thC_len, thC_below, hnil, d28, hlt, hkl, hgk, hg1, hk1, hth, hth2, hgb1, hgb2, hgb3, hal, g66, g69, g77, g82, g90, g96, g100]) (by rfl)⟩
                                    all_goals (clear hc hth hth2 hg hnil h1 h1' hgk hg1 hk1; rcases hcs with ⟨q1, q2⟩ | ⟨q1, q2, q3⟩ | ⟨q1, q2, q3, q4⟩ | ⟨q1, q2, q3, q4⟩ <;> simp_all <;> omega)
                                · try (exfalso; revert g100; simp; done)
                                  all_goals
                                    have g100' := g100; first | simp only [dT, dF] at g100' | try simp at g100'
                                    refine WpO.run tabOk 4 (by simp -implicitDefEqProofs [ln0, mcP, mcO, -List.reduceReplicate, thC_len, thC_below, hnil, d28, hlt, hkl, hgk, hg1, hk1, hth, hth2, hgb1, hgb2, hgb3, hal, g66, g69, g77, g82, g90, g96, g100] <;> first | exact ⟨rfl, rfl⟩ | rfl) ?_
                                    refine WpO.nil ?_
                                    refine ⟨rfl, Gh.only 104 50 ?_ (by first | rfl | simp -implicitDefEqProofs [ln0, mcP, mcO, -List.reduceReplicate, thC_len, thC_below, hnil, d28, hlt, hkl, hgk, hg1, hk1, hth, hth2, hgb1, hgb2, hgb3, hal, g66, g69, g77, g82, g90, g96, g100]) (by rfl)⟩
                                    all_goals (clear hc hth hth2 hg hnil h1 h1' hgk hg1 hk1; rcases hcs with ⟨q1, q2⟩ | ⟨q1, q2, q3⟩ | ⟨q1, q2, q3, q4⟩ | ⟨q1, q2, q3, q4⟩ <;> simp_all <;> omega)
                            · try (exfalso; revert g96; simp; done)
                              all_goals
                                have g96' := g96; first | simp only [dT, dF] at g96' | try simp at g96'
                                refine WpO.run tabOk 8 (by simp -implicitDefEqProofs [ln0, mcP, mcO, -List.reduceReplicate, thC_len, thC_below, hnil, d28, hlt, hkl, hgk, hg1, hk1, hth, hth2, hgb1, hgb2, hgb3, hal, g66, g69, g77, g82, g90, g96] <;> first | exact ⟨rfl, rfl⟩ | rfl) ?_
                                refine WpO.nil ?_
                                refine ⟨rfl, Gh.only 104 49 ?_ (by first | rfl | simp -implicitDefEqProofs [ln0, mcP, mcO, -List.reduceReplicate, thC_len, thC_below, hnil, d28, hlt, hkl, hgk, hg1, hk1, hth, hth2, hgb1, hgb2, hgb3, hal, g66, g69, g77, g82, g90, g96]) (by rfl)⟩
                                all_goals (clear hc hth hth2 hg hnil h1 h1' hgk hg1 hk1; rcases hcs with ⟨q1, q2⟩ | ⟨q1, q2, q3⟩ | ⟨q1, q2, q3, q4⟩ | ⟨q1, q2, q3, q4⟩ <;> simp_all <;> omega)
                        · try (exfalso; revert g90; simp; done)
                          all_goals
                            have g90' := g90; first | simp only [dT, dF] at g90' | try simp at g90'
                            refine WpO.run tabOk 14 (by simp -implicitDefEqProofs [ln0, mcP, mcO, -List.reduceReplicate, thC_len, thC_below, hnil, d28, hlt, hkl, hgk, hg1, hk1, hth, hth2, hgb1, hgb2, hgb3, hal, g66, g69, g77, g82, g90] <;> first | exact ⟨rfl, rfl⟩ | rfl) ?_
                            refine WpO.nil ?_
                            refine ⟨rfl, Gh.only 104 48 ?_ (by first | rfl | simp -implicitDefEqProofs [ln0, mcP, mcO, -List.reduceReplicate, thC_len, thC_below, hnil, d28, hlt, hkl, hgk, hg1, hk1, hth, hth2, hgb1, hgb2, hgb3, hal, g66, g69, g77, g82, g90]) (by rfl)⟩
                            all_goals (clear hc hth hth2 hg hnil h1 h1' hgk hg1 hk1; rcases hcs with ⟨q1, q2⟩ | ⟨q1, q2, q3⟩ | ⟨q1, q2, q3, q4⟩ | ⟨q1, q2, q3, q4⟩ <;> simp_all <;> omega)
                · try (exfalso; revert g77; simp; done)
                  all_goals
                    have g77' := g77; first | simp only [dT, dF] at g77' | try simp at g77'
                    refine WpO.run tabOk 13 (by simp -implicitDefEqProofs [ln0, mcP, mcO, -List.reduceReplicate, thC_len, thC_below, hnil, d28, hlt, hkl, hgk, hg1, hk1, hth, hth2, hgb1, hgb2, hgb3, hal, g66, g69, g77] <;> first | exact ⟨rfl, rfl⟩ | rfl) ?_
                    refine WpO.splitB 90 (by simp -implicitDefEqProofs [ln0, mcP, mcO, -List.reduceReplicate, thC_len, thC_below, hnil, d28, hlt, hkl, hgk, hg1, hk1, hth, hth2, hgb1, hgb2, hgb3, hal, g66, g69, g77] <;> rfl) (by rfl) (fun g90 => ?_) (fun g90 => ?_)
                    · try (exfalso; revert g90; simp; done)
                      all_goals
                        have g90' := g90; first | simp only [dT, dF] at g90' | try simp at g90'
                        refine WpO.run tabOk 6 (by simp -implicitDefEqProofs [ln0, mcP, mcO, -List.reduceReplicate, thC_len, thC_below, hnil, d28, hlt, hkl, hgk, hg1, hk1, hth, hth2, hgb1, hgb2, hgb3, hal, g66, g69, g77, g90] <;> first | exact ⟨rfl, rfl⟩ | rfl) ?_
                        refine WpO.splitB 96 (by simp -implicitDefEqProofs [ln0, mcP, mcO, -List.reduceReplicate, thC_len, thC_below, hnil, d28, hlt, hkl, hgk, hg1, hk1, hth, hth2, hgb1, hgb2, hgb3, hal, g66, g69, g77, g90] <;> rfl) (by rfl) (fun g96 => ?_) (fun g96 => ?_)
                        · try (exfalso; revert g96; simp; done)
                          all_goals
                            have g96' := g96; first | simp only [dT, dF] at g96' | try simp at g96'
                            refine WpO.run tabOk 4 (by simp -implicitDefEqProofs [ln0, mcP, mcO, -List.reduceReplicate, thC_len, thC_below, hnil, d28, hlt, hkl, hgk, hg1, hk1, hth, hth2, hgb1, hgb2, hgb3, hal, g66, g69, g77, g90, g96] <;> first | exact ⟨rfl, rfl⟩ | rfl) ?_
                            refine WpO.splitB 100 (by simp -implicitDefEqProofs [ln0, mcP, mcO, -List.reduceReplicate, thC_len, thC_below, hnil, d28, hlt, hkl, hgk, hg1, hk1, hth, hth2, hgb1, hgb2, hgb3, hal, g66, g69, g77, g90, g96] <;> rfl) (by rfl) (fun g100 => ?_) (fun g100 => ?_)
                            · try (exfalso; revert g100; simp; done)
                              all_goals
                                have g100' := g100; first | simp only [dT, dF] at g100' | try simp at g100'
                                refine WpO.run tabOk 4 (by simp -implicitDefEqProofs [ln0, mcP, mcO, -List.reduceReplicate, thC_len, thC_below, hnil, d28, hlt, hkl, hgk, hg1, hk1, hth, hth2, hgb1, hgb2, hgb3, hal, g66, g69, g77, g90, g96, g100] <;> first | exact ⟨rfl, rfl⟩ | rfl) ?_
                                refine WpO.nil ?_
                                refine ⟨rfl, Gh.only 104 49 ?_ (by first | rfl | simp -implicitDefEqProofs [ln0, mcP, mcO, -List.reduceReplicate, thC_len, thC_below, hnil, d28, hlt, hkl, hgk, hg1, hk1, hth, hth2, hgb1, hgb2, hgb3, hal, g66, g69, g77, g90, g96, g100]) (by rfl)⟩
                                all_goals (clear hc hth hth2 hg hnil h1 h1' hgk hg1 hk1; rcases hcs with ⟨q1, q2⟩ | ⟨q1, q2, q3⟩ | ⟨q1, q2, q3, q4⟩ | ⟨q1, q2, q3, q4⟩ <;> simp_all <;> omega)
                            · try (exfalso; revert g100; simp; done)
                              all_goals
                                have g100' := g100; first | simp only [dT, dF] at g100' | try simp at g100'
                                refine WpO.run tabOk 4 (by simp -implicitDefEqProofs [ln0, mcP, mcO, -List.reduceReplicate, thC_len, thC_below, hnil, d28, hlt, hkl, hgk, hg1, hk1, hth, hth2, hgb1, hgb2, hgb3, hal, g66, g69, g77, g90, g96, g100] <;> first | exact ⟨rfl, rfl⟩ | rfl) ?_
                                refine WpO.nil ?_
                                refine ⟨rfl, Gh.only 104 49 ?_ (by first | rfl | simp -implicitDefEqProofs [ln0, mcP, mcO, -List.reduceReplicate, thC_len, thC_below, hnil, d28, hlt, hkl, hgk, hg1, hk1, hth, hth2, hgb1, hgb2, hgb3, hal, g66, g69, g77, g90, g96, g100]) (by rfl)⟩
                                all_goals (clear hc hth hth2 hg hnil h1 h1' hgk hg1 hk1; rcases hcs with ⟨q1, q2⟩ | ⟨q1, q2, q3⟩ | ⟨q1, q2, q3, q4⟩ | ⟨q1, q2, q3, q4⟩ <;> simp_all <;> omega)
                        · try (exfalso; revert g96; simp; done)
                          all_goals
                            have g96' := g96; first | simp only [dT, dF] at g96' | try simp at g96'
                            refine WpO.run tabOk 8 (by simp -implicitDefEqProofs [ln0, mcP, mcO, -List.reduceReplicate, thC_len, thC_below, hnil, d28, hlt, hkl, hgk, hg1, hk1, hth, hth2, hgb1, hgb2, hgb3, hal, g66, g69, g77, g90, g96] <;> first | exact ⟨rfl, rfl⟩ | rfl) ?_
                            refine WpO.nil ?_
                            refine ⟨rfl, Gh.only 104 48 ?_ (by first | rfl | simp -implicitDefEqProofs [ln0, mcP, mcO, -List.reduceReplicate, thC_len, thC_below, hnil, d28, hlt, hkl, hgk, hg1, hk1, hth, hth2, hgb1, hgb2, hgb3, hal, g66, g69, g77, g90, g96]) (by rfl)⟩
                            all_goals (clear hc hth hth2 hg hnil h1 h1' hgk hg1 hk1; rcases hcs with ⟨q1, q2⟩ | ⟨q1, q2, q3⟩ | ⟨q1, q2, q3, q4⟩ | ⟨q1, q2, q3, q4⟩ <;> simp_all <;> omega)
                    · try (exfalso; revert g90; simp; done)
                      all_goals
                        have g90' := g90; first | simp only [dT, dF] at g90' | try simp at g90'
                        refine WpO.run tabOk 14 (by simp -implicitDefEqProofs [ln0, mcP, mcO, -List.reduceReplicate, thC_len, thC_below, hnil, d28, hlt, hkl, hgk, hg1, hk1, hth, hth2, hgb1, hgb2, hgb3, hal, g66, g69, g77, g90] <;> first | exact ⟨rfl, rfl⟩ | rfl) ?_
                        refine WpO.nil ?_
                        refine ⟨rfl, Gh.only 104 47 ?_ (by first | rfl | simp -implicitDefEqProofs [ln0, mcP, mcO, -List.reduceReplicate, thC_len, thC_below, hnil, d28, hlt, hkl, hgk, hg1, hk1, hth, hth2, hgb1, hgb2, hgb3, hal, g66, g69, g77, g90]) (by rfl)⟩
                        all_goals (clear hc hth hth2 hg hnil h1 h1' hgk hg1 hk1; rcases hcs with ⟨q1, q2⟩ | ⟨q1, q2, q3⟩ | ⟨q1, q2, q3, q4⟩ | ⟨q1, q2, q3, q4⟩ <;> simp_all <;> omega)
      refine WpC.condF (by simp -implicitDefEqProofs [ln0, mcP, mcO, -List.reduceReplicate, thC_len, thC_below, hnil, d28, hlt, hkl, hgk, hg1, hk1, hth, hth2, hgb1, hgb2, hgb3, hal] <;> rfl) ?_
      refine WpC.skip ?_
      refine WpC.seq ?_
      refine WpC.seq (WpC.ops tabOk (r := []) (by simp -implicitDefEqProofs [ln0, mcP, mcO, -List.reduceReplicate, thC_len, thC_below, hnil, d28, hlt, hkl, hgk, hg1, hk1, hth, hth2, hgb1, hgb2, hgb3, hal] <;> rfl) rfl ?_)
      refine WpC.condD (mcE a c = 0) (by simp -implicitDefEqProofs [ln0, mcP, mcO, -List.reduceReplicate, thC_len, thC_below, hnil, d28, hlt, hkl, hgk, hg1, hk1, hth, hth2, hgb1, hgb2, hgb3, hal]) (fun d105 => ?_) (fun d105 => ?_)
      · have hN : mcN a c = a ++ [c] := if_pos d105
        have hts := thC_set a hgb
        refine WpC.seq (WpC.ops tabOk (r := []) (by simp -implicitDefEqProofs [ln0, mcP, mcO, -List.reduceReplicate, thC_len, thC_below, hnil, d28, hlt, hkl, hgk, hg1, hk1, hth, hth2, hgb1, hgb2, hgb3, hal, d105, hN, hts] <;> rfl) rfl ?_)
        refine WpC.ops tabOk (r := []) (by simp -implicitDefEqProofs [ln0, mcP, mcO, -List.reduceReplicate, thC_len, thC_below, hnil, d28, hlt, hkl, hgk, hg1, hk1, hth, hth2, hgb1, hgb2, hgb3, hal, d105, hN, hts] <;> rfl) rfl ?_
        refine WpC.ops tabOk (r := []) (by simp -implicitDefEqProofs [ln0, mcP, mcO, -List.reduceReplicate, thC_len, thC_below, hnil, d28, hlt, hkl, hgk, hg1, hk1, hth, hth2, hgb1, hgb2, hgb3, hal, d105, hN, hts] <;> rfl) rfl ?_
        refine WpC.ops tabOk (r := []) (by simp -implicitDefEqProofs [ln0, mcP, mcO, -List.reduceReplicate, thC_len, thC_below, hnil, d28, hlt, hkl, hgk, hg1, hk1, hth, hth2, hgb1, hgb2, hgb3, hal, d105, hN, hts] <;> rfl) rfl ?_
        exact ⟨hlt, a ++ [c], by simp; omega, Gh.pick [5, 37, 3, 6, 35, 36] [0, 5, 2] (by simp -implicitDefEqProofs [ln0, mcP, mcO, -List.reduceReplicate, thC_len, thC_below, hnil, d28, hlt, hkl, hgk, hg1, hk1, hth, hth2, hgb1, hgb2, hgb3, hal, d105, hN, hts]; rfl) (by simp -implicitDefEqProofs [ln0, mcP, mcO, -List.reduceReplicate, thC_len, thC_below, hnil, d28, hlt, hkl, hgk, hg1, hk1, hth, hth2, hgb1, hgb2, hgb3, hal, d105, hN, hts]) (by simp) (by simp) (by simp; rfl) (by simp -implicitDefEqProofs [ln0, mcP, mcO, -List.reduceReplicate, thC_len, thC_below, hnil, d28, hlt, hkl, hgk, hg1, hk1, hth, hth2, hgb1, hgb2, hgb3, hal, d105, hN, hts]) (by simp)⟩
      · have hN : mcN a c = a := if_neg d105
        refine WpC.skip ?_
        refine WpC.ops tabOk (r := []) (by simp -implicitDefEqProofs [ln0, mcP, mcO, -List.reduceReplicate, thC_len, thC_below, hnil, d28, hlt, hkl, hgk, hg1, hk1, hth, hth2, hgb1, hgb2, hgb3, hal, d105, hN] <;> rfl) rfl ?_
        refine WpC.ops tabOk (r := []) (by simp -implicitDefEqProofs [ln0, mcP, mcO, -List.reduceReplicate, thC_len, thC_below, hnil, d28, hlt, hkl, hgk, hg1, hk1, hth, hth2, hgb1, hgb2, hgb3, hal, d105, hN] <;> rfl) rfl ?_
        exact ⟨hlt, a, by omega, Gh.cut' [5, 37, 3, 6, 35, 36] 3 (by simp -implicitDefEqProofs [ln0, mcP, mcO, -List.reduceReplicate, thC_len, thC_below, hnil, d28, hlt, hkl, hgk, hg1, hk1, hth, hth2, hgb1, hgb2, hgb3, hal, d105, hN]) (by simp -implicitDefEqProofs [ln0, mcP, mcO, -List.reduceReplicate, thC_len, thC_below, hnil, d28, hlt, hkl, hgk, hg1, hk1, hth, hth2, hgb1, hgb2, hgb3, hal, d105, hN]) rfl (by simp) (by simp) (by simp)⟩
    · refine WpC.exit ?_
      have hkn : k = gs.length := by omega
      subst hkn
      refine WpC.seq ?_
      obtain ⟨n, hn⟩ : ∃ n, a.length = n := ⟨_, rfl⟩
      have hfi := findP_ok [mcP a] 4 (by simp)
      rw [mc_find] at hfi
      refine WpC.region ?_
      refine WpO.run tabOk 1 (by simp -implicitDefEqProofs [ln0, mcP, mcO, -List.reduceReplicate, thC_len, thC_below, hnil, d28] <;> first | exact ⟨rfl, rfl⟩ | rfl) ?_
      refine WpO.data (by simp) rfl (by simp -implicitDefEqProofs [ln0, mcP, mcO, -List.reduceReplicate, thC_len, thC_below, hnil, d28] <;> rfl) (by simp -implicitDefEqProofs [ln0, mcP, mcO, -List.reduceReplicate, thC_len, thC_below, hnil, d28] <;> rfl) (by simp -implicitDefEqProofs [ln0, mcP, mcO, -List.reduceReplicate, thC_len, thC_below, hnil, d28] <;> rfl) call_23 (by simp) (hfi) (by rfl) (by simp -implicitDefEqProofs [ln0, mcP, mcO, -List.reduceReplicate, thC_len, thC_below, hnil, d28] <;> rfl) ?_
      refine WpO.run tabOk 6 (by simp -implicitDefEqProofs [ln0, mcP, mcO, -List.reduceReplicate, thC_len, thC_below, hnil, d28] <;> first | exact ⟨rfl, rfl⟩ | rfl) ?_
      refine WpO.nil ?_
      refine WpC.seq ?_
      refine WpC.seq ?_
      refine WpC.val 129 (.d (.bool (false))) ?_ ?_
      · refine WpC.region ?_
        refine WpO.run tabOk 3 (by simp -implicitDefEqProofs [ln0, mcP, mcO, -List.reduceReplicate, thC_len, thC_below, hnil, d28] <;> first | exact ⟨rfl, rfl⟩ | rfl) ?_
        refine WpO.splitB 122 (by simp -implicitDefEqProofs [ln0, mcP, mcO, -List.reduceReplicate, thC_len, thC_below, hnil, d28] <;> rfl) (by rfl) (fun g122 => ?_) (fun g122 => ?_)
        · try (exfalso; revert g122; simp; done)
          all_goals
            have g122' := g122; first | simp only [dT, dF] at g122' | try simp at g122'
            refine WpO.run tabOk 7 (by simp -implicitDefEqProofs [ln0, mcP, mcO, -List.reduceReplicate, thC_len, thC_below, hnil, d28, g122] <;> first | exact ⟨rfl, rfl⟩ | rfl) ?_
            refine WpO.nil ?_
            refine ⟨rfl, Gh.only 129 11 ?_ (by first | rfl | simp -implicitDefEqProofs [ln0, mcP, mcO, -List.reduceReplicate, thC_len, thC_below, hnil, d28, g122]) (by rfl)⟩
            simp -implicitDefEqProofs [ln0, mcP, mcO, -List.reduceReplicate, thC_len, thC_below, hnil, d28, g122, g122']
        · try (exfalso; revert g122; simp; done)
          all_goals
            have g122' := g122; first | simp only [dT, dF] at g122' | try simp at g122'
            refine WpO.run tabOk 7 (by simp -implicitDefEqProofs [ln0, mcP, mcO, -List.reduceReplicate, thC_len, thC_below, hnil, d28, g122] <;> first | exact ⟨rfl, rfl⟩ | rfl) ?_
            refine WpO.nil ?_
            refine ⟨rfl, Gh.only 129 11 ?_ (by first | rfl | simp -implicitDefEqProofs [ln0, mcP, mcO, -List.reduceReplicate, thC_len, thC_below, hnil, d28, g122]) (by rfl)⟩
            simp -implicitDefEqProofs [ln0, mcP, mcO, -List.reduceReplicate, thC_len, thC_below, hnil, d28, g122, g122']
      refine WpC.condF (by simp -implicitDefEqProofs [ln0, mcP, mcO, -List.reduceReplicate, thC_len, thC_below, hnil, d28] <;> rfl) ?_
      refine WpC.skip ?_
      refine WpC.seq ?_
      refine WpC.seq (WpC.ops tabOk (r := []) (by simp -implicitDefEqProofs [ln0, mcP, mcO, -List.reduceReplicate, thC_len, thC_below, hnil, d28] <;> rfl) rfl ?_)
      refine WpC.block ?_
      refine WpC.loopK [5, 131, 132] [133] (a.length) (() : Unit) (fun k _ => [(133, .d (.int .i64 k))]) (fun k _ => [.cells 57 [.d (encPes [mcP a])], .arr 3 1 (a.map dI)]) (fun k _ => True) (by simp -implicitDefEqProofs [ln0, mcP, mcO, -List.reduceReplicate, thC_len, thC_below, hnil, d28] <;> rfl) (Gh.cut' [133, 5, 131, 132] 2 (by simp -implicitDefEqProofs [ln0, mcP, mcO, -List.reduceReplicate, thC_len, thC_below, hnil, d28]) (by simp -implicitDefEqProofs [ln0, mcP, mcO, -List.reduceReplicate, thC_len, thC_below, hnil, d28]) rfl (by simp) (by simp) (by simp)) (by simp) ?_
      rintro k ⟨⟩ hk hi
      simp only [List.cons_append, List.nil_append]
      refine WpC.seq (WpC.ops tabOk (r := []) (by simp -implicitDefEqProofs [ln0, mcP, mcO, -List.reduceReplicate, thC_len, thC_below, hnil, d28] <;> rfl) rfl ?_)
      refine WpC.seq (WpC.condD (k < a.length) (by simp -implicitDefEqProofs [ln0, mcP, mcO, -List.reduceReplicate, thC_len, thC_below, hnil, d28] <;> omega) (fun hlt => ?_) (fun hge => ?_))
      · refine WpC.skip ?_
        have hkl : k < a.length := by omega
        obtain ⟨c, hgk⟩ : ∃ c, a[k] = c := ⟨_, rfl⟩
        have hk1 : IntKind.i64.wrap ((k : Int) + 1) = k + 1 := wrapI (by omega) (by omega)
        refine WpC.seq ?_
        refine WpC.block ?_
        refine WpC.seq (WpC.ops tabOk (r := []) (by simp -implicitDefEqProofs [ln0, mcP, mcO, -List.reduceReplicate, thC_len, thC_below, hnil, d28, hlt, hkl, hgk, hk1] <;> rfl) rfl ?_)
        refine WpC.seq ?_
        refine WpC.val 149 (.d (.bool (false))) ?_ ?_
        · refine WpC.drawn tabOk (by kernel_rfl) 0 (by simp) ?_
          refine DrO.run (fz := []) 3 (by simp -implicitDefEqProofs [ln0, mcP, mcO, -List.reduceReplicate, thC_len, thC_below, hnil, d28, hlt, hkl, hgk, hk1] <;> first | exact ⟨rfl, rfl, rfl, rfl⟩ | rfl) ?_
          refine DrO.run (fz := []) 3 (by simp -implicitDefEqProofs [ln0, mcP, mcO, -List.reduceReplicate, thC_len, thC_below, hnil, d28, hlt, hkl, hgk, hk1] <;> first | exact ⟨rfl, rfl, rfl, rfl⟩ | rfl) ?_
          refine DrO.run (fz := []) 2 (by simp -implicitDefEqProofs [ln0, mcP, mcO, -List.reduceReplicate, thC_len, thC_below, hnil, d28, hlt, hkl, hgk, hk1] <;> first | exact ⟨rfl, rfl, rfl, rfl⟩ | rfl) ?_
          refine DrO.splitB 145 (by simp -implicitDefEqProofs [ln0, mcP, mcO, -List.reduceReplicate, thC_len, thC_below, hnil, d28, hlt, hkl, hgk, hk1] <;> rfl) (by rfl) (fun g145 => ?_) (fun g145 => ?_)
          · try (exfalso; revert g145; simp; done)
            all_goals
              have g145' := g145; first | simp only [dT, dF] at g145' | try simp at g145'
              refine DrO.run (fz := []) 3 (by simp -implicitDefEqProofs [ln0, mcP, mcO, -List.reduceReplicate, thC_len, thC_below, hnil, d28, hlt, hkl, hgk, hk1, g145] <;> first | exact ⟨rfl, rfl, rfl, rfl⟩ | rfl) ?_
              refine DrO.run (fz := []) 1 (by simp -implicitDefEqProofs [ln0, mcP, mcO, -List.reduceReplicate, thC_len, thC_below, hnil, d28, hlt, hkl, hgk, hk1, g145] <;> first | exact ⟨rfl, rfl, rfl, rfl⟩ | rfl) ?_
              refine DrO.nil ⟨by kernel_rfl, ?_⟩
              refine ⟨rfl, Gh.only 149 12 ?_ (by first | rfl | simp -implicitDefEqProofs [ln0, mcP, mcO, -List.reduceReplicate, thC_len, thC_below, hnil, d28, hlt, hkl, hgk, hk1, g145]) (by rfl)⟩
              simp -implicitDefEqProofs [ln0, mcP, mcO, -List.reduceReplicate, thC_len, thC_below, hnil, d28, hlt, hkl, hgk, hk1, g145, g145']
          · try (exfalso; revert g145; simp; done)
            all_goals
              have g145' := g145; first | simp only [dT, dF] at g145' | try simp at g145'
              refine DrO.run (fz := []) 3 (by simp -implicitDefEqProofs [ln0, mcP, mcO, -List.reduceReplicate, thC_len, thC_below, hnil, d28, hlt, hkl, hgk, hk1, g145] <;> first | exact ⟨rfl, rfl, rfl, rfl⟩ | rfl) ?_
              refine DrO.run (fz := []) 1 (by simp -implicitDefEqProofs [ln0, mcP, mcO, -List.reduceReplicate, thC_len, thC_below, hnil, d28, hlt, hkl, hgk, hk1, g145] <;> first | exact ⟨rfl, rfl, rfl, rfl⟩ | rfl) ?_
              refine DrO.nil ⟨by kernel_rfl, ?_⟩
              refine ⟨rfl, Gh.only 149 12 ?_ (by first | rfl | simp -implicitDefEqProofs [ln0, mcP, mcO, -List.reduceReplicate, thC_len, thC_below, hnil, d28, hlt, hkl, hgk, hk1, g145]) (by rfl)⟩
              simp -implicitDefEqProofs [ln0, mcP, mcO, -List.reduceReplicate, thC_len, thC_below, hnil, d28, hlt, hkl, hgk, hk1, g145, g145']
        refine WpC.condF (by simp -implicitDefEqProofs [ln0, mcP, mcO, -List.reduceReplicate, thC_len, thC_below, hnil, d28, hlt, hkl, hgk, hk1] <;> rfl) ?_
        refine WpC.skip ?_
        refine WpC.ops tabOk (r := []) (by simp -implicitDefEqProofs [ln0, mcP, mcO, -List.reduceReplicate, thC_len, thC_below, hnil, d28, hlt, hkl, hgk, hk1] <;> rfl) rfl ?_
        exact ⟨hlt, (), trivial, Gh.cut' [133, 5, 131, 132] 2 (by simp -implicitDefEqProofs [ln0, mcP, mcO, -List.reduceReplicate, thC_len, thC_below, hnil, d28, hlt, hkl, hgk, hk1]) (by simp -implicitDefEqProofs [ln0, mcP, mcO, -List.reduceReplicate, thC_len, thC_below, hnil, d28, hlt, hkl, hgk, hk1]) rfl (by simp) (by simp) (by simp)⟩
      · refine WpC.exit ?_
        have hkn : k = a.length := by omega
        subst hkn
        refine WpC.seq ?_
        refine WpC.region ?_
        refine WpO.data (by simp) rfl (by simp -implicitDefEqProofs [ln0, mcP, mcO, -List.reduceReplicate, thC_len, thC_below, hnil, d28] <;> rfl) (by simp -implicitDefEqProofs [ln0, mcP, mcO, -List.reduceReplicate, thC_len, thC_below, hnil, d28] <;> rfl) (by simp -implicitDefEqProofs [ln0, mcP, mcO, -List.reduceReplicate, thC_len, thC_below, hnil, d28] <;> rfl) call_19 (by simp) (awake13_ok) (by rfl) (by simp -implicitDefEqProofs [ln0, mcP, mcO, -List.reduceReplicate, thC_len, thC_below, hnil, d28] <;> rfl) ?_
        refine WpO.run tabOk 1 (by simp -implicitDefEqProofs [ln0, mcP, mcO, -List.reduceReplicate, thC_len, thC_below, hnil, d28] <;> first | exact ⟨rfl, rfl⟩ | rfl) ?_
        refine WpO.nil ?_
        refine WpC.ret ?_
        try simp only [blockQ, seqQ]
        refine retD_i (by simp -implicitDefEqProofs [ln0, mcP, mcO, -List.reduceReplicate, thC_len, thC_below, hnil, d28] <;> rfl) (by simp -implicitDefEqProofs [ln0, mcP, mcO, -List.reduceReplicate, thC_len, thC_below, hnil, d28] <;> rfl) ?_
        simp -implicitDefEqProofs [ln0, mcP, mcO, -List.reduceReplicate, thC_len, thC_below, hnil, d28]
end Go.Proofs.Ytndofikacmhejaa.Pay
