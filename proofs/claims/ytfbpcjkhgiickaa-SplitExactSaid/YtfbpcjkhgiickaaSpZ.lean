/- Law SplitExact. No statement of the seed is proved here. -/
import Derived.Test.YtfbpcjkhgiickaaBgF
import Derived.Test.YtfbpcjkhgiickaaSpQ
import Derived.Test.YtfbpcjkhgiickaaSpY
import Derived.Test.YtfbpcjkhgiickaaSpT
namespace Go.Proofs.Ytfbpcjkhgiickaa.Pay
open Go Go.RowKit
set_option linter.unusedVariables false
set_option linter.unusedSimpArgs false
set_option linter.unusedSectionVars false

theorem spE_long {T : Int} {ws : List Int} (h : 60 < ws.length) : spE T ws = 9 := by unfold spE; rw [if_pos h]
theorem spE_bad {T : Int} {ws : List Int} (h : ¬ 60 < ws.length) (hb : (decide (T < 0) || ws.any fun w => decide (w < 0)) = true) : spE T ws = 1 := by
  unfold spE
  rw [if_neg h, if_pos (by simpa using hb)]
theorem spE_rest {T : Int} {ws : List Int} (h : ¬ 60 < ws.length) (h64 : ∀ x ∈ ws, in64 x) (hb : (decide (T < 0) || ws.any fun w => decide (w < 0)) = false) : (rsum ws).2 = sumB ws ∧ (sumB ws = true → (rsum ws).1 = ws.sum) ∧ spE T ws = if sumB ws = false then 3 else if ws.sum = 0 then 4 else 0 := by
  have h2 : ∀ x ∈ ws, 0 ≤ x := fun x hx => by
    rw [Bool.or_eq_false_iff, List.any_eq_false] at hb
    have := hb.2 x hx
    simp at this; omega
  have h3 := rsum_nn ws 0 (by decide) (by decide) fun x hx => ⟨h2 x hx, (h64 x hx).2⟩
  rw [Int.zero_add] at h3
  have h4 : rsum ws = if ws.sum ≤ 9223372036854775807 then (ws.sum, true) else (0, false) := h3
  rw [h4]
  unfold sumB
  refine ⟨?_, fun h => ?_, ?_⟩
  · split <;> simp_all
  · rw [decide_eq_true_iff] at h; rw [if_pos h]
  · unfold spE
    rw [if_neg h, if_neg (by intro q; rw [← decide_eq_true_iff (p := T < 0), ← Bool.or_eq_true, hb] at q; cases q)]; rfl
set_option maxHeartbeats 40000000 in
theorem splitExact_ok (T m : Int) (ws : List Int) (hT : in64 T) (hm : in64 m) (hws : ∀ x ∈ ws, in64 x) (hl : ws.length ≤ 9223372036854775807) : Gives Try.prog 3 [.d (dI T), .d (.list 1 (ws.map dI)), .d (dI m)] (.d (.bool true)) := by
  refine Gives.enter tabOk Try.func3 rfl (by show 3 ≤ 140; decide) ?_
  simp only [Try.f3]
  refine WpC.seq (WpC.ops tabOk (r := []) (by simp -implicitDefEqProofs <;> rfl) rfl ?_)
  refine WpC.seq ?_
  refine WpC.seq (WpC.ops tabOk (r := []) (by simp -implicitDefEqProofs <;> rfl) rfl ?_)
  refine WpC.condD ((100 : Int) < ws.length) (by simp -implicitDefEqProofs) (fun d20 => ?_) (fun d20 => ?_)
  · refine WpC.seq ?_
    refine WpC.region ?_
    refine WpO.data (by simp) rfl (by simp -implicitDefEqProofs [d20] <;> rfl) (by simp -implicitDefEqProofs [d20] <;> rfl) (by simp -implicitDefEqProofs [d20] <;> rfl) call_8 (by simp) (awake4_ok) (by rfl) (by simp -implicitDefEqProofs [d20] <;> rfl) ?_
    refine WpO.run tabOk 1 (by simp -implicitDefEqProofs [d20] <;> first | exact ⟨rfl, rfl⟩ | rfl) ?_
    refine WpO.nil ?_
    refine WpC.ret ?_
    try simp only [blockQ, seqQ]
    refine retD_i (by simp -implicitDefEqProofs [d20] <;> rfl) (by simp -implicitDefEqProofs [d20] <;> rfl) ?_
    simp -implicitDefEqProofs [d20]
  · have hn : ws.length ≤ 100 := by omega
    have hsp := splitL_ok T ws hT hws (by omega)
    have hev := evenL_ok T m hT
    have hsum := refSum_ok ws hws (by omega)
    have hrs := fun h => refSplit_ok T ws hT h
    have hlo := fun h => spE_long (T := T) (ws := ws) h
    have hba := fun h hb => spE_bad (T := T) (ws := ws) h hb
    have hre := fun h hb => spE_rest (T := T) (ws := ws) h hws hb
    have hno : spE T ws ≠ 0 → spS T ws = [] := fun h => by unfold spS; rw [if_neg h]
    have hln : (spS T ws).length ≤ 1000000 := by
      unfold spS
      split <;> simp
      omega
    obtain ⟨L, hL⟩ : ∃ L, spS T ws = L := ⟨_, rfl⟩
    obtain ⟨e, he⟩ : ∃ e, spE T ws = e := ⟨_, rfl⟩
    obtain ⟨K, hK⟩ : ∃ L, evenS T m = L := ⟨_, rfl⟩
    obtain ⟨f, hf⟩ : ∃ e, evenE T m = e := ⟨_, rfl⟩
    rw [hL, he] at hsp hno
    rw [hK, hf] at hev
    rw [he] at hlo hba hre
    rw [hL] at hrs hln
    rw [he] at hrs
    have hsame := same_ok L L hln hln
    simp only [decide_true] at hsame
    obtain ⟨rs, hrsum⟩ : ∃ r, rsum ws = r := ⟨_, rfl⟩
    obtain ⟨s, ok⟩ := rs
    rw [hrsum] at hsum hre
    simp only at hsum hre
    refine WpC.skip ?_
    refine WpC.seq ?_
    refine WpC.region ?_
    refine WpO.run tabOk 2 (by simp -implicitDefEqProofs [d20] <;> first | exact ⟨rfl, rfl⟩ | rfl) ?_
    refine WpO.data (by simp) rfl (by simp -implicitDefEqProofs [d20] <;> rfl) (by simp -implicitDefEqProofs [d20] <;> rfl) (by simp -implicitDefEqProofs [d20] <;> rfl) call_9 (by simp) (hsp) (by rfl) (by simp -implicitDefEqProofs [d20] <;> rfl) ?_
    refine WpO.run tabOk 5 (by simp -implicitDefEqProofs [d20] <;> first | exact ⟨rfl, rfl⟩ | rfl) ?_
    refine WpO.nil ?_
    refine WpC.seq ?_
    refine WpC.region ?_
    refine WpO.run tabOk 2 (by simp -implicitDefEqProofs [d20] <;> first | exact ⟨rfl, rfl⟩ | rfl) ?_
    refine WpO.data (by simp) rfl (by simp -implicitDefEqProofs [d20] <;> rfl) (by simp -implicitDefEqProofs [d20] <;> rfl) (by simp -implicitDefEqProofs [d20] <;> rfl) call_10 (by simp) (hev) (by rfl) (by simp -implicitDefEqProofs [d20] <;> rfl) ?_
    refine WpO.run tabOk 5 (by simp -implicitDefEqProofs [d20] <;> first | exact ⟨rfl, rfl⟩ | rfl) ?_
    refine WpO.nil ?_
    refine WpC.seq (WpC.ops tabOk (r := []) (by simp -implicitDefEqProofs [d20] <;> rfl) rfl ?_)
    refine WpC.seq ?_
    refine WpC.seq (WpC.ops tabOk (r := []) (by simp -implicitDefEqProofs [d20] <;> rfl) rfl ?_)
    refine WpC.block ?_
    refine WpC.loopK [0, 1, 2, 7, 8, 9, 10, 36, 37] [11, 38] (ws.length) (() : Unit) (fun k _ => [(11, .d (.bool (decide (T < 0) || (ws.take k).any fun w => decide (w < 0)))), (38, .d (.int .i64 k))]) (fun k _ => []) (fun k _ => True) (by simp -implicitDefEqProofs [d20] <;> rfl) (Gh.cut' [11, 38, 0, 1, 2, 7, 8, 9, 10, 36, 37] 0 (by simp -implicitDefEqProofs [d20]) (by simp -implicitDefEqProofs [d20]) rfl (by simp) (by simp) (by simp)) (by simp) ?_
    rintro k ⟨⟩ hk hi
    simp only [List.cons_append, List.nil_append]
    refine WpC.seq (WpC.ops tabOk (r := []) (by simp -implicitDefEqProofs [d20] <;> rfl) rfl ?_)
    refine WpC.seq (WpC.condD (k < ws.length) (by simp -implicitDefEqProofs [d20] <;> omega) (fun hlt => ?_) (fun hge => ?_))
    · refine WpC.skip ?_
      obtain ⟨x, hx⟩ : ∃ x, ws[k] = x := ⟨_, rfl⟩
      have hst := any_take (fun w : Int => decide (w < 0)) hlt
      rw [hx] at hst
      obtain ⟨b, hb⟩ : ∃ b, ((ws.take k).any fun w => decide (w < 0)) = b := ⟨_, rfl⟩
      rw [hb] at hst ⊢
      have hkw : IntKind.i64.wrap ((k : Int) + 1) = k + 1 := wrapI (by omega) (by omega)
      refine WpC.seq ?_
      refine WpC.block ?_
      refine WpC.seq (WpC.ops tabOk (r := []) (by simp -implicitDefEqProofs [d20, hlt, hx, hkw] <;> rfl) rfl ?_)
      refine WpC.val 11 (.d (.bool (decide (T < 0) || (b || decide (x < 0))))) ?_ ?_
      · refine WpC.region ?_
        refine WpO.run tabOk 2 (by simp -implicitDefEqProofs [d20, hlt, hx, hkw] <;> first | exact ⟨rfl, rfl⟩ | rfl) ?_
        refine WpO.splitB 43 (by simp -implicitDefEqProofs [d20, hlt, hx, hkw] <;> rfl) (by rfl) (fun g43 => ?_) (fun g43 => ?_)
        · have g43' := g43; first | simp only [dT, dF] at g43' | try simp at g43'
          refine WpO.run tabOk 4 (by simp -implicitDefEqProofs [d20, hlt, hx, hkw, g43] <;> first | exact ⟨rfl, rfl⟩ | rfl) ?_
          refine WpO.nil ?_
          refine ⟨rfl, Gh.only 11 7 ?_ (by first | rfl | simp -implicitDefEqProofs [d20, hlt, hx, hkw, g43]) (by rfl)⟩
          first | (rcases g43' with h | h <;> simp [h] <;> done) | (obtain ⟨h1, h2⟩ := g43'; subst h2; simp <;> omega)
        · have g43' := g43; first | simp only [dT, dF] at g43' | try simp at g43'
          refine WpO.run tabOk 4 (by simp -implicitDefEqProofs [d20, hlt, hx, hkw, g43] <;> first | exact ⟨rfl, rfl⟩ | rfl) ?_
          refine WpO.nil ?_
          refine ⟨rfl, Gh.only 11 7 ?_ (by first | rfl | simp -implicitDefEqProofs [d20, hlt, hx, hkw, g43]) (by rfl)⟩
          first | (rcases g43' with h | h <;> simp [h] <;> done) | (obtain ⟨h1, h2⟩ := g43'; subst h2; simp <;> omega)
      refine WpC.ops tabOk (r := []) (by simp -implicitDefEqProofs [d20, hlt, hx, hkw] <;> rfl) rfl ?_
      exact ⟨hlt, (), trivial, Gh.cut' [11, 38, 0, 1, 2, 7, 8, 9, 10, 36, 37] 0 (by simp -implicitDefEqProofs [d20, hlt, hx, hkw, hst]) (by simp) rfl (by simp) (by simp) (by simp)⟩
    · refine WpC.exit ?_
      have hkn : k = ws.length := by omega
      subst hkn
      rw [List.take_of_length_le (Nat.le_refl _)]
      obtain ⟨bd, hbd⟩ : ∃ b, (decide (T < 0) || ws.any fun w => decide (w < 0)) = b := ⟨_, rfl⟩
      rw [hbd] at hba hre ⊢
      refine WpC.seq ?_
      refine WpC.region ?_
      refine WpO.run tabOk 1 (by simp -implicitDefEqProofs [d20] <;> first | exact ⟨rfl, rfl⟩ | rfl) ?_
      refine WpO.data (by simp) rfl (by simp -implicitDefEqProofs [d20] <;> rfl) (by simp -implicitDefEqProofs [d20] <;> rfl) (by simp -implicitDefEqProofs [d20] <;> rfl) call_11 (by simp) (hsum) (by rfl) (by simp -implicitDefEqProofs [d20] <;> rfl) ?_
      refine WpO.run tabOk 5 (by simp -implicitDefEqProofs [d20] <;> first | exact ⟨rfl, rfl⟩ | rfl) ?_
      refine WpO.nil ?_
      refine WpC.seq (WpC.ops tabOk (r := []) (by simp -implicitDefEqProofs [d20] <;> rfl) rfl ?_)
      refine WpC.seq ?_
      refine WpC.join ⟨[(0, .d (dI T)), (1, .d (.list 1 (ws.map dI))), (2, .d (dI m)), (7, .d (.list 1 (L.map dI))), (8, .d (dI e)), (9, .d (.list 1 (K.map dI))), (10, .d (dI f)), (16, .d (dI e))], [], 140, 0⟩ ?_ ?_
      · refine WpC.block ?_
        refine WpC.seq (WpC.ops tabOk (r := []) (by simp -implicitDefEqProofs [d20] <;> rfl) rfl ?_)
        refine WpC.condD ((60 : Int) < ws.length) (by simp -implicitDefEqProofs [d20]) (fun d53 => ?_) (fun d53 => ?_)
        · have hW := hlo (by omega)
          refine WpC.ops tabOk (r := []) (by simp -implicitDefEqProofs [d20, d53] <;> rfl) rfl ?_
          exact ⟨rfl, Gh.cut' [0, 1, 2, 7, 8, 9, 10, 16] 0 (by simp -implicitDefEqProofs [d20, d53, hW]) (by simp -implicitDefEqProofs [d20, d53, hW]) rfl (by simp) (by simp) (by simp)⟩
        · have h60 : ¬ 60 < ws.length := by omega
          refine WpC.seq (WpC.ops tabOk (r := []) (by simp -implicitDefEqProofs [d20, d53] <;> rfl) rfl ?_)
          refine WpC.condD (bd = true) (by simp -implicitDefEqProofs [d20, d53]) (fun d57 => ?_) (fun d57 => ?_)
          · have hW := hba h60 d57
            refine WpC.ops tabOk (r := []) (by simp -implicitDefEqProofs [d20, d53, d57] <;> rfl) rfl ?_
            exact ⟨rfl, Gh.cut' [0, 1, 2, 7, 8, 9, 10, 16] 0 (by simp -implicitDefEqProofs [d20, d53, d57, hW]) (by simp -implicitDefEqProofs [d20, d53, d57, hW]) rfl (by simp) (by simp) (by simp)⟩
          · obtain ⟨r1, r2, r3⟩ := hre h60 (by simpa using d57)
            refine WpC.seq (WpC.ops tabOk (r := []) (by simp -implicitDefEqProofs [d20, d53, d57] <;> rfl) rfl ?_)
            refine WpC.condD (ok = false) (by simp -implicitDefEqProofs [d20, d53, d57]) (fun d59 => ?_) (fun d59 => ?_)
            · have hW : e = 3 := by rw [r3, if_pos (by rw [← r1]; exact d59)]
              refine WpC.ops tabOk (r := []) (by simp -implicitDefEqProofs [d20, d53, d57, d59] <;> rfl) rfl ?_
              exact ⟨rfl, Gh.cut' [0, 1, 2, 7, 8, 9, 10, 16] 0 (by simp -implicitDefEqProofs [d20, d53, d57, d59, hW]) (by simp -implicitDefEqProofs [d20, d53, d57, d59, hW]) rfl (by simp) (by simp) (by simp)⟩
            · have hok : ok = true := by simpa using d59
              have hs2 := r2 (by rw [← r1]; exact hok)
              rw [if_neg (by rw [← r1, hok]; simp), ← hs2] at r3
              refine WpC.seq (WpC.ops tabOk (r := []) (by simp -implicitDefEqProofs [d20, d53, d57, d59] <;> rfl) rfl ?_)
              refine WpC.condD (s = 0) (by simp -implicitDefEqProofs [d20, d53, d57, d59]) (fun d62 => ?_) (fun d62 => ?_)
              · have hW : e = 4 := by rw [r3, if_pos d62]
                refine WpC.ops tabOk (r := []) (by simp -implicitDefEqProofs [d20, d53, d57, d59, d62] <;> rfl) rfl ?_
                exact ⟨rfl, Gh.cut' [0, 1, 2, 7, 8, 9, 10, 16] 0 (by simp -implicitDefEqProofs [d20, d53, d57, d59, d62, hW]) (by simp -implicitDefEqProofs [d20, d53, d57, d59, d62, hW]) rfl (by simp) (by simp) (by simp)⟩
              · have hW : e = 0 := by rw [r3, if_neg d62]
                refine WpC.skip ?_
                exact ⟨rfl, Gh.cut' [0, 1, 2, 7, 8, 9, 10, 16] 0 (by simp -implicitDefEqProofs [d20, d53, d57, d59, d62, hW]) (by simp -implicitDefEqProofs [d20, d53, d57, d59, d62, hW]) rfl (by simp) (by simp) (by simp)⟩
      · refine WpC.seq ?_
        refine WpC.seq ?_
        refine WpC.val 88 (.d (.bool (false))) ?_ ?_
        · refine WpC.region ?_
          refine WpO.run tabOk 4 (by simp -implicitDefEqProofs [d20] <;> first | exact ⟨rfl, rfl⟩ | rfl) ?_
          refine WpO.splitB 68 (by simp -implicitDefEqProofs [d20] <;> rfl) (by rfl) (fun g68 => ?_) (fun g68 => ?_)
          · try (exfalso; revert g68; simp; done)
            all_goals
              have g68' := g68; first | simp only [dT, dF] at g68' | try simp at g68'
              refine WpO.run tabOk 20 (by simp -implicitDefEqProofs [d20, g68] <;> first | exact ⟨rfl, rfl⟩ | rfl) ?_
              refine WpO.nil ?_
              refine ⟨rfl, Gh.only 88 25 ?_ (by first | rfl | simp -implicitDefEqProofs [d20, g68]) (by rfl)⟩
              simp -implicitDefEqProofs [d20, g68, g68']
          · try (exfalso; revert g68; simp; done)
            all_goals
              have g68' := g68; first | simp only [dT, dF] at g68' | try simp at g68'
              refine WpO.run tabOk 3 (by simp -implicitDefEqProofs [d20, g68] <;> first | exact ⟨rfl, rfl⟩ | rfl) ?_
              refine WpO.splitB 71 (by simp -implicitDefEqProofs [d20, g68] <;> rfl) (by rfl) (fun g71 => ?_) (fun g71 => ?_)
              · try (exfalso; revert g71; simp; done)
                all_goals
                  have g71' := g71; first | simp only [dT, dF] at g71' | try simp at g71'
                  have hL0 : L = [] := hno (by simpa using g71)
                  subst hL0
                  refine WpO.run tabOk 6 (by simp -implicitDefEqProofs [d20, g68, g71] <;> first | exact ⟨rfl, rfl⟩ | rfl) ?_
                  refine WpO.splitB 77 (by simp -implicitDefEqProofs [d20, g68, g71] <;> rfl) (by rfl) (fun g77 => ?_) (fun g77 => ?_)
                  · try (exfalso; revert g77; simp; done)
                    all_goals
                      have g77' := g77; first | simp only [dT, dF] at g77' | try simp at g77'
                      refine WpO.run tabOk 11 (by simp -implicitDefEqProofs [d20, g68, g71, g77] <;> first | exact ⟨rfl, rfl⟩ | rfl) ?_
                      refine WpO.nil ?_
                      refine ⟨rfl, Gh.only 88 27 ?_ (by first | rfl | simp -implicitDefEqProofs [d20, g68, g71, g77]) (by rfl)⟩
                      simp -implicitDefEqProofs [d20, g68, g71, g77, g68', g71', g77']
                  · try (exfalso; revert g77; simp; done)
                    all_goals
                      have g77' := g77; first | simp only [dT, dF] at g77' | try simp at g77'
                      refine WpO.run tabOk 3 (by simp -implicitDefEqProofs [d20, g68, g71, g77] <;> first | exact ⟨rfl, rfl⟩ | rfl) ?_
                      refine WpO.splitB 80 (by simp -implicitDefEqProofs [d20, g68, g71, g77] <;> rfl) (by rfl) (fun g80 => ?_) (fun g80 => ?_)
                      · try (exfalso; revert g80; simp; done)
                        all_goals
                          have g80' := g80; first | simp only [dT, dF] at g80' | try simp at g80'
                          refine WpO.run tabOk 3 (by simp -implicitDefEqProofs [d20, g68, g71, g77, g80] <;> first | exact ⟨rfl, rfl⟩ | rfl) ?_
                          refine WpO.data (by simp) rfl (by simp -implicitDefEqProofs [d20, g68, g71, g77, g80] <;> rfl) (by simp -implicitDefEqProofs [d20, g68, g71, g77, g80] <;> rfl) (by simp -implicitDefEqProofs [d20, g68, g71, g77, g80] <;> rfl) call_13 (by simp) (hrs (by simpa using g80)) (by rfl) (by simp -implicitDefEqProofs [d20, g68, g71, g77, g80] <;> rfl) ?_
                          refine WpO.data (by simp) rfl (by simp -implicitDefEqProofs [d20, g68, g71, g77, g80] <;> rfl) (by simp -implicitDefEqProofs [d20, g68, g71, g77, g80] <;> rfl) (by simp -implicitDefEqProofs [d20, g68, g71, g77, g80] <;> rfl) call_12 (by simp) (hsame) (by rfl) (by simp -implicitDefEqProofs [d20, g68, g71, g77, g80] <;> rfl) ?_
                          refine WpO.run tabOk 3 (by simp -implicitDefEqProofs [d20, g68, g71, g77, g80] <;> first | exact ⟨rfl, rfl⟩ | rfl) ?_
                          refine WpO.nil ?_
                          refine ⟨rfl, Gh.only 88 28 ?_ (by first | rfl | simp -implicitDefEqProofs [d20, g68, g71, g77, g80]) (by rfl)⟩
                          simp -implicitDefEqProofs [d20, g68, g71, g77, g80, g68', g71', g77', g80']
                      · try (exfalso; revert g80; simp; done)
                        all_goals
                          have g80' := g80; first | simp only [dT, dF] at g80' | try simp at g80'
                          refine WpO.run tabOk 8 (by simp -implicitDefEqProofs [d20, g68, g71, g77, g80] <;> first | exact ⟨rfl, rfl⟩ | rfl) ?_
                          refine WpO.nil ?_
                          refine ⟨rfl, Gh.only 88 28 ?_ (by first | rfl | simp -implicitDefEqProofs [d20, g68, g71, g77, g80]) (by rfl)⟩
                          simp -implicitDefEqProofs [d20, g68, g71, g77, g80, g68', g71', g77', g80']
              · try (exfalso; revert g71; simp; done)
                all_goals
                  have g71' := g71; first | simp only [dT, dF] at g71' | try simp at g71'
                  refine WpO.run tabOk 9 (by simp -implicitDefEqProofs [d20, g68, g71] <;> first | exact ⟨rfl, rfl⟩ | rfl) ?_
                  refine WpO.splitB 80 (by simp -implicitDefEqProofs [d20, g68, g71] <;> rfl) (by rfl) (fun g80 => ?_) (fun g80 => ?_)
                  · try (exfalso; revert g80; simp; done)
                    all_goals
                      have g80' := g80; first | simp only [dT, dF] at g80' | try simp at g80'
                      refine WpO.run tabOk 3 (by simp -implicitDefEqProofs [d20, g68, g71, g80] <;> first | exact ⟨rfl, rfl⟩ | rfl) ?_
                      refine WpO.data (by simp) rfl (by simp -implicitDefEqProofs [d20, g68, g71, g80] <;> rfl) (by simp -implicitDefEqProofs [d20, g68, g71, g80] <;> rfl) (by simp -implicitDefEqProofs [d20, g68, g71, g80] <;> rfl) call_13 (by simp) (hrs (by simpa using g80)) (by rfl) (by simp -implicitDefEqProofs [d20, g68, g71, g80] <;> rfl) ?_
                      refine WpO.data (by simp) rfl (by simp -implicitDefEqProofs [d20, g68, g71, g80] <;> rfl) (by simp -implicitDefEqProofs [d20, g68, g71, g80] <;> rfl) (by simp -implicitDefEqProofs [d20, g68, g71, g80] <;> rfl) call_12 (by simp) (hsame) (by rfl) (by simp -implicitDefEqProofs [d20, g68, g71, g80] <;> rfl) ?_
                      refine WpO.run tabOk 3 (by simp -implicitDefEqProofs [d20, g68, g71, g80] <;> first | exact ⟨rfl, rfl⟩ | rfl) ?_
                      refine WpO.nil ?_
                      refine ⟨rfl, Gh.only 88 27 ?_ (by first | rfl | simp -implicitDefEqProofs [d20, g68, g71, g80]) (by rfl)⟩
                      simp -implicitDefEqProofs [d20, g68, g71, g80, g68', g71', g80']
                  · try (exfalso; revert g80; simp; done)
                    all_goals
                      have g80' := g80; first | simp only [dT, dF] at g80' | try simp at g80'
                      refine WpO.run tabOk 8 (by simp -implicitDefEqProofs [d20, g68, g71, g80] <;> first | exact ⟨rfl, rfl⟩ | rfl) ?_
                      refine WpO.nil ?_
                      refine ⟨rfl, Gh.only 88 27 ?_ (by first | rfl | simp -implicitDefEqProofs [d20, g68, g71, g80]) (by rfl)⟩
                      simp -implicitDefEqProofs [d20, g68, g71, g80, g68', g71', g80']
        refine WpC.condF (by simp -implicitDefEqProofs [d20] <;> rfl) ?_
        refine WpC.skip ?_
        refine WpC.seq ?_
        refine WpC.seq ?_
        refine WpC.val 98 (.d (.bool (decide (m < 1 ∨ (m ≤ 60 ∧ T < 0))))) ?_ ?_
        · refine WpC.region ?_
          refine WpO.run tabOk 3 (by simp -implicitDefEqProofs [d20] <;> first | exact ⟨rfl, rfl⟩ | rfl) ?_
          refine WpO.splitB 91 (by simp -implicitDefEqProofs [d20] <;> rfl) (by rfl) (fun g91 => ?_) (fun g91 => ?_)
          · have g91' := g91; first | simp only [dT, dF] at g91' | try simp at g91'
            refine WpO.run tabOk 7 (by simp -implicitDefEqProofs [d20, g91] <;> first | exact ⟨rfl, rfl⟩ | rfl) ?_
            refine WpO.nil ?_
            refine ⟨rfl, Gh.only 98 11 ?_ (by first | rfl | simp -implicitDefEqProofs [d20, g91]) (by rfl)⟩
            simp -implicitDefEqProofs [d20, g91, g91']
          · have g91' := g91; first | simp only [dT, dF] at g91' | try simp at g91'
            refine WpO.run tabOk 3 (by simp -implicitDefEqProofs [d20, g91] <;> first | exact ⟨rfl, rfl⟩ | rfl) ?_
            refine WpO.splitB 94 (by simp -implicitDefEqProofs [d20, g91] <;> rfl) (by rfl) (fun g94 => ?_) (fun g94 => ?_)
            · have g94' := g94; first | simp only [dT, dF] at g94' | try simp at g94'
              refine WpO.run tabOk 4 (by simp -implicitDefEqProofs [d20, g91, g94] <;> first | exact ⟨rfl, rfl⟩ | rfl) ?_
              refine WpO.nil ?_
              refine ⟨rfl, Gh.only 98 12 ?_ (by first | rfl | simp -implicitDefEqProofs [d20, g91, g94]) (by rfl)⟩
              simp -implicitDefEqProofs [d20, g91, g94, g91', g94']
            · have g94' := g94; first | simp only [dT, dF] at g94' | try simp at g94'
              refine WpO.run tabOk 4 (by simp -implicitDefEqProofs [d20, g91, g94] <;> first | exact ⟨rfl, rfl⟩ | rfl) ?_
              refine WpO.nil ?_
              refine ⟨rfl, Gh.only 98 12 ?_ (by first | rfl | simp -implicitDefEqProofs [d20, g91, g94]) (by rfl)⟩
              simp -implicitDefEqProofs [d20, g91, g94, g91', g94']
        refine WpC.condD (m < 1 ∨ (m ≤ 60 ∧ T < 0)) (by simp -implicitDefEqProofs [d20]) (fun d98 => ?_) (fun d98 => ?_)
        · have hKf : K = [] ∧ f = 1 := by
            rw [← hK, ← hf]
            unfold evenS evenE
            by_cases h1 : m < 1
            · rw [if_pos h1, if_pos h1]; exact ⟨rfl, rfl⟩
            · rw [if_neg h1, if_neg h1, if_neg (by omega), if_neg (by omega)]
              have he1 : spE T (List.replicate m.toNat 1) = 1 := spE_bad (by simp; omega) (by rw [decide_eq_true (show T < 0 by omega)]; rfl)
              unfold spS
              rw [he1]; exact ⟨if_neg (by decide), rfl⟩
          obtain ⟨rfl, rfl⟩ := hKf
          refine WpC.seq ?_
          refine WpC.val 6 (.d (.bool (true))) ?_ ?_
          · refine WpC.region ?_
            refine WpO.run tabOk 4 (by simp -implicitDefEqProofs [d20, d98] <;> first | exact ⟨rfl, rfl⟩ | rfl) ?_
            refine WpO.splitB 102 (by simp -implicitDefEqProofs [d20, d98] <;> rfl) (by rfl) (fun g102 => ?_) (fun g102 => ?_)
            · try (exfalso; revert g102; simp; done)
              all_goals
                have g102' := g102; first | simp only [dT, dF] at g102' | try simp at g102'
                refine WpO.run tabOk 4 (by simp -implicitDefEqProofs [d20, d98, g102] <;> first | exact ⟨rfl, rfl⟩ | rfl) ?_
                refine WpO.splitB 106 (by simp -implicitDefEqProofs [d20, d98, g102] <;> rfl) (by rfl) (fun g106 => ?_) (fun g106 => ?_)
                · try (exfalso; revert g106; simp; done)
                  all_goals
                    have g106' := g106; first | simp only [dT, dF] at g106' | try simp at g106'
                    refine WpO.data (by simp) rfl (by simp -implicitDefEqProofs [d20, d98, g102, g106] <;> rfl) (by simp -implicitDefEqProofs [d20, d98, g102, g106] <;> rfl) (by simp -implicitDefEqProofs [d20, d98, g102, g106] <;> rfl) call_8 (by simp) (awake4_ok) (by rfl) (by simp -implicitDefEqProofs [d20, d98, g102, g106] <;> rfl) ?_
                    refine WpO.run tabOk 2 (by simp -implicitDefEqProofs [d20, d98, g102, g106] <;> first | exact ⟨rfl, rfl⟩ | rfl) ?_
                    refine WpO.nil ?_
                    refine ⟨rfl, Gh.only 6 13 ?_ (by first | rfl | simp -implicitDefEqProofs [d20, d98, g102, g106]) (by rfl)⟩
                    simp -implicitDefEqProofs [d20, d98, g102, g106, g102', g106']
                · try (exfalso; revert g106; simp; done)
                  all_goals
                    have g106' := g106; first | simp only [dT, dF] at g106' | try simp at g106'
                    refine WpO.run tabOk 3 (by simp -implicitDefEqProofs [d20, d98, g102, g106] <;> first | exact ⟨rfl, rfl⟩ | rfl) ?_
                    refine WpO.nil ?_
                    refine ⟨rfl, Gh.only 6 13 ?_ (by first | rfl | simp -implicitDefEqProofs [d20, d98, g102, g106]) (by rfl)⟩
                    simp -implicitDefEqProofs [d20, d98, g102, g106, g102', g106']
            · try (exfalso; revert g102; simp; done)
              all_goals
                have g102' := g102; first | simp only [dT, dF] at g102' | try simp at g102'
                refine WpO.run tabOk 7 (by simp -implicitDefEqProofs [d20, d98, g102] <;> first | exact ⟨rfl, rfl⟩ | rfl) ?_
                refine WpO.nil ?_
                refine ⟨rfl, Gh.only 6 12 ?_ (by first | rfl | simp -implicitDefEqProofs [d20, d98, g102]) (by rfl)⟩
                simp -implicitDefEqProofs [d20, d98, g102, g102']
          refine WpC.ret ?_
          try simp only [blockQ, seqQ]
          refine retD_i (by simp -implicitDefEqProofs [d20, d98] <;> rfl) (by simp -implicitDefEqProofs [d20, d98] <;> rfl) ?_
          simp -implicitDefEqProofs [d20, d98]
        · refine WpC.skip ?_
          refine WpC.seq ?_
          refine WpC.seq (WpC.ops tabOk (r := []) (by simp -implicitDefEqProofs [d20, d98] <;> rfl) rfl ?_)
          refine WpC.condD ((60 : Int) < m) (by simp -implicitDefEqProofs [d20, d98]) (fun d110 => ?_) (fun d110 => ?_)
          · have hKf : K = [] ∧ f = 9 := by
              rw [← hK, ← hf]
              unfold evenS evenE
              have h1 : ¬ m < 1 := by omega
              rw [if_neg h1, if_neg h1, if_pos d110, if_pos d110]; exact ⟨rfl, rfl⟩
            obtain ⟨rfl, rfl⟩ := hKf
            refine WpC.seq ?_
            refine WpC.val 6 (.d (.bool (true))) ?_ ?_
            · refine WpC.region ?_
              refine WpO.run tabOk 4 (by simp -implicitDefEqProofs [d20, d98, d110] <;> first | exact ⟨rfl, rfl⟩ | rfl) ?_
              refine WpO.splitB 114 (by simp -implicitDefEqProofs [d20, d98, d110] <;> rfl) (by rfl) (fun g114 => ?_) (fun g114 => ?_)
              · try (exfalso; revert g114; simp; done)
                all_goals
                  have g114' := g114; first | simp only [dT, dF] at g114' | try simp at g114'
                  refine WpO.run tabOk 4 (by simp -implicitDefEqProofs [d20, d98, d110, g114] <;> first | exact ⟨rfl, rfl⟩ | rfl) ?_
                  refine WpO.splitB 118 (by simp -implicitDefEqProofs [d20, d98, d110, g114] <;> rfl) (by rfl) (fun g118 => ?_) (fun g118 => ?_)
                  · try (exfalso; revert g118; simp; done)
                    all_goals
                      have g118' := g118; first | simp only [dT, dF] at g118' | try simp at g118'
                      refine WpO.data (by simp) rfl (by simp -implicitDefEqProofs [d20, d98, d110, g114, g118] <;> rfl) (by simp -implicitDefEqProofs [d20, d98, d110, g114, g118] <;> rfl) (by simp -implicitDefEqProofs [d20, d98, d110, g114, g118] <;> rfl) call_8 (by simp) (awake4_ok) (by rfl) (by simp -implicitDefEqProofs [d20, d98, d110, g114, g118] <;> rfl) ?_
                      refine WpO.run tabOk 2 (by simp -implicitDefEqProofs [d20, d98, d110, g114, g118] <;> first | exact ⟨rfl, rfl⟩ | rfl) ?_
                      refine WpO.nil ?_
                      refine ⟨rfl, Gh.only 6 13 ?_ (by first | rfl | simp -implicitDefEqProofs [d20, d98, d110, g114, g118]) (by rfl)⟩
                      simp -implicitDefEqProofs [d20, d98, d110, g114, g118, g114', g118']
                  · try (exfalso; revert g118; simp; done)
                    all_goals
                      have g118' := g118; first | simp only [dT, dF] at g118' | try simp at g118'
                      refine WpO.run tabOk 3 (by simp -implicitDefEqProofs [d20, d98, d110, g114, g118] <;> first | exact ⟨rfl, rfl⟩ | rfl) ?_
                      refine WpO.nil ?_
                      refine ⟨rfl, Gh.only 6 13 ?_ (by first | rfl | simp -implicitDefEqProofs [d20, d98, d110, g114, g118]) (by rfl)⟩
                      simp -implicitDefEqProofs [d20, d98, d110, g114, g118, g114', g118']
              · try (exfalso; revert g114; simp; done)
                all_goals
                  have g114' := g114; first | simp only [dT, dF] at g114' | try simp at g114'
                  refine WpO.run tabOk 7 (by simp -implicitDefEqProofs [d20, d98, d110, g114] <;> first | exact ⟨rfl, rfl⟩ | rfl) ?_
                  refine WpO.nil ?_
                  refine ⟨rfl, Gh.only 6 12 ?_ (by first | rfl | simp -implicitDefEqProofs [d20, d98, d110, g114]) (by rfl)⟩
                  simp -implicitDefEqProofs [d20, d98, d110, g114, g114']
            refine WpC.ret ?_
            try simp only [blockQ, seqQ]
            refine retD_i (by simp -implicitDefEqProofs [d20, d98, d110] <;> rfl) (by simp -implicitDefEqProofs [d20, d98, d110] <;> rfl) ?_
            simp -implicitDefEqProofs [d20, d98, d110]
          · obtain ⟨n, rfl⟩ : ∃ n : Nat, m = n := ⟨m.toNat, by omega⟩
            have he0 : spE T (List.replicate n 1) = 0 := by
              have := spE_ok (T := T) (ws := List.replicate n 1) (by simp; omega) (by omega) (by simp)
              rw [this, sum_rep, if_neg (by omega), if_neg (by omega)]
            have hKf : K = spS T (List.replicate n 1) ∧ f = 0 := by
              rw [← hK, ← hf]
              unfold evenS evenE
              have h1 : ¬ (n : Int) < 1 := by omega
              rw [if_neg h1, if_neg h1, if_neg d110, if_neg d110, show (n : Int).toNat = n from rfl]
              exact ⟨rfl, he0⟩
            obtain ⟨hK2, rfl⟩ := hKf
            have hr2 := refSplit_ok T (List.replicate n 1) hT he0
            rw [← hK2] at hr2
            have hKl : K.length ≤ 1000000 := by rw [hK2]; unfold spS; split <;> simp <;> omega
            have hs2 := same_ok K K hKl hKl
            simp only [decide_true] at hs2
            rw [show (List.replicate n (1 : Int)).map dI = rowF (fun _ => 1) n from (rep_map n).symm] at hr2
            have hz0 : rowF (fun _ => 1) 0 = [] := rfl
            refine WpC.skip ?_
            refine WpC.seq (WpC.ops tabOk (r := []) (by simp -implicitDefEqProofs [d20, d98, d110, hz0] <;> rfl) rfl ?_)
            refine WpC.seq ?_
            refine WpC.gh (Gh.nilArr 3 1 (t := 17) (by simp) (by simp)) ?_
            refine WpC.seq (WpC.ops tabOk (r := []) (by simp -implicitDefEqProofs [d20, d98, d110, hz0] <;> rfl) rfl ?_)
            refine WpC.block ?_
            refine WpC.loopK [0, 9, 10, 121] [17, 122] (n) (() : Unit) (fun k _ => [(17, .sl 0 k), (122, .d (.int .i64 k))]) (fun k _ => [.arr 3 1 (rowF (fun _ => 1) k)]) (fun k _ => True) (by simp -implicitDefEqProofs [d20, d98, d110, hz0] <;> rfl) (Gh.cut' [17, 122, 0, 9, 10, 121] 1 (by simp -implicitDefEqProofs [d20, d98, d110, hz0]) (by simp -implicitDefEqProofs [d20, d98, d110, hz0]) rfl (by simp) (by simp) (by simp)) (by simp) ?_
            rintro k ⟨⟩ hk hi
            simp only [List.cons_append, List.nil_append]
            refine WpC.seq (WpC.ops tabOk (r := []) (by simp -implicitDefEqProofs [d20, d98, d110, hz0] <;> rfl) rfl ?_)
            refine WpC.seq (WpC.condD (k < n) (by simp -implicitDefEqProofs [d20, d98, d110, hz0] <;> omega) (fun hlt => ?_) (fun hge => ?_))
            · refine WpC.skip ?_
              have hro := rowF_snoc (fun _ => 1) k
              have hks : k ≤ 8589934591 := by omega
              have hkw : IntKind.i64.wrap ((k : Int) + 1) = k + 1 := wrapI (by omega) (by omega)
              refine WpC.seq ?_
              refine WpC.block ?_
              refine WpC.ops tabOk (r := []) (by simp -implicitDefEqProofs [d20, d98, d110, hz0, hlt, hks, hkw] <;> rfl) rfl ?_
              refine WpC.ops tabOk (r := []) (by simp -implicitDefEqProofs [d20, d98, d110, hz0, hlt, hks, hkw] <;> rfl) rfl ?_
              exact ⟨hlt, (), trivial, Gh.pick [17, 122, 0, 9, 10, 121] [2] (by simp -implicitDefEqProofs [d20, d98, d110, hz0, hlt, hks, hkw, hro]; rfl) (by simp -implicitDefEqProofs [d20, d98, d110, hz0, hlt, hks, hkw, hro]) (by simp) (by simp) (by simp; rfl) (by simp -implicitDefEqProofs [d20, d98, d110, hz0, hlt, hks, hkw, hro]) (by simp)⟩
            · refine WpC.exit ?_
              obtain rfl : n = k := by omega
              refine WpC.seq ?_
              refine WpC.gh (Gh.frz [0]) ?_
              refine WpC.gh (Gh.view (t := 17) (x := .sl 0 n) (y := .d (.list 1 (rowF (fun _ => 1) n))) (by simp) (by simp)) ?_
              refine WpC.val 6 (.d (.bool (true))) ?_ ?_
              · refine WpC.region ?_
                refine WpO.run tabOk 3 (by simp -implicitDefEqProofs [d20, d98, d110, hz0] <;> first | exact ⟨rfl, rfl⟩ | rfl) ?_
                refine WpO.data (by simp) rfl (by simp -implicitDefEqProofs [d20, d98, d110, hz0] <;> rfl) (by simp -implicitDefEqProofs [d20, d98, d110, hz0] <;> rfl) (by simp -implicitDefEqProofs [d20, d98, d110, hz0] <;> rfl) call_13 (by simp) (hr2) (by rfl) (by simp -implicitDefEqProofs [d20, d98, d110, hz0] <;> rfl) ?_
                refine WpO.data (by simp) rfl (by simp -implicitDefEqProofs [d20, d98, d110, hz0] <;> rfl) (by simp -implicitDefEqProofs [d20, d98, d110, hz0] <;> rfl) (by simp -implicitDefEqProofs [d20, d98, d110, hz0] <;> rfl) call_12 (by simp) (hs2) (by rfl) (by simp -implicitDefEqProofs [d20, d98, d110, hz0] <;> rfl) ?_
                refine WpO.run tabOk 1 (by simp -implicitDefEqProofs [d20, d98, d110, hz0] <;> first | exact ⟨rfl, rfl⟩ | rfl) ?_
                refine WpO.splitB 133 (by simp -implicitDefEqProofs [d20, d98, d110, hz0] <;> rfl) (by rfl) (fun g133 => ?_) (fun g133 => ?_)
                · try (exfalso; revert g133; simp; done)
                  all_goals
                    have g133' := g133; first | simp only [dT, dF] at g133' | try simp at g133'
                    refine WpO.run tabOk 4 (by simp -implicitDefEqProofs [d20, d98, d110, hz0, g133] <;> first | exact ⟨rfl, rfl⟩ | rfl) ?_
                    refine WpO.splitB 137 (by simp -implicitDefEqProofs [d20, d98, d110, hz0, g133] <;> rfl) (by rfl) (fun g137 => ?_) (fun g137 => ?_)
                    · try (exfalso; revert g137; simp; done)
                      all_goals
                        have g137' := g137; first | simp only [dT, dF] at g137' | try simp at g137'
                        refine WpO.data (by simp) rfl (by simp -implicitDefEqProofs [d20, d98, d110, hz0, g133, g137] <;> rfl) (by simp -implicitDefEqProofs [d20, d98, d110, hz0, g133, g137] <;> rfl) (by simp -implicitDefEqProofs [d20, d98, d110, hz0, g133, g137] <;> rfl) call_8 (by simp) (awake4_ok) (by rfl) (by simp -implicitDefEqProofs [d20, d98, d110, hz0, g133, g137] <;> rfl) ?_
                        refine WpO.run tabOk 2 (by simp -implicitDefEqProofs [d20, d98, d110, hz0, g133, g137] <;> first | exact ⟨rfl, rfl⟩ | rfl) ?_
                        refine WpO.nil ?_
                        refine ⟨rfl, Gh.only 6 15 ?_ (by first | rfl | simp -implicitDefEqProofs [d20, d98, d110, hz0, g133, g137]) (by rfl)⟩
                        simp -implicitDefEqProofs [d20, d98, d110, hz0, g133, g137, g133', g137']
                    · try (exfalso; revert g137; simp; done)
                      all_goals
                        have g137' := g137; first | simp only [dT, dF] at g137' | try simp at g137'
                        refine WpO.run tabOk 3 (by simp -implicitDefEqProofs [d20, d98, d110, hz0, g133, g137] <;> first | exact ⟨rfl, rfl⟩ | rfl) ?_
                        refine WpO.nil ?_
                        refine ⟨rfl, Gh.only 6 15 ?_ (by first | rfl | simp -implicitDefEqProofs [d20, d98, d110, hz0, g133, g137]) (by rfl)⟩
                        simp -implicitDefEqProofs [d20, d98, d110, hz0, g133, g137, g133', g137']
                · try (exfalso; revert g133; simp; done)
                  all_goals
                    have g133' := g133; first | simp only [dT, dF] at g133' | try simp at g133'
                    refine WpO.run tabOk 7 (by simp -implicitDefEqProofs [d20, d98, d110, hz0, g133] <;> first | exact ⟨rfl, rfl⟩ | rfl) ?_
                    refine WpO.nil ?_
                    refine ⟨rfl, Gh.only 6 14 ?_ (by first | rfl | simp -implicitDefEqProofs [d20, d98, d110, hz0, g133]) (by rfl)⟩
                    simp -implicitDefEqProofs [d20, d98, d110, hz0, g133, g133']
              refine WpC.ret ?_
              try simp only [blockQ, seqQ]
              refine retD_i (by simp -implicitDefEqProofs [d20, d98, d110, hz0] <;> rfl) (by simp -implicitDefEqProofs [d20, d98, d110, hz0] <;> rfl) ?_
              simp -implicitDefEqProofs [d20, d98, d110, hz0]
section
variable {w : World}
theorem splitExact_row {e0 e1 e2 : List D} {v0 v1 v2 : Value} {i0 i1 i2 : TI} (y0 : HasT tab 8 3 e0) (y1 : HasT tab 8 22 e1) (y2 : HasT tab 8 3 e2) (t0 : some i0 = tab 3) (t1 : some i1 = tab 22) (t2 : some i2 = tab 3)
    (z0 : DRel w (lt w) (elemD i0 e0) v0) (z1 : DRel w (lt w) (elemD i1 e1) v1) (z2 : DRel w (lt w) (elemD i2 e2) v2) :
    Calls Try.prog 3 #[v0, v1, v2] w fun e w' => e = .returned (.bool true) ∧ Below w.heap.size w w' := by
  rw [tab_3] at t0 t2; cases t0; cases t2
  rw [tab_22] at t1; cases t1
  obtain ⟨n, rfl, hn⟩ := has_num y0 tab_3
  obtain ⟨ws, hg, hl, rfl⟩ := has_ints y1 tab_22 tab_3
  obtain ⟨m, rfl, hm⟩ := has_num y2 tab_3
  refine WpF.law (splitExact_ok n m ws (i64_in hn) (i64_in hm) (fun x hx => i64_in (hg x hx)) (by simpa [maxLen] using hl)) (fun r S h => h.1) (vs := [v0, v1, v2]) ?_
  simp only [VRelL, VRel]
  exact ⟨v0, _, rfl, z0, v1, _, rfl, z1, v2, _, rfl, z2, rfl⟩
end
end Go.Proofs.Ytfbpcjkhgiickaa.Pay
