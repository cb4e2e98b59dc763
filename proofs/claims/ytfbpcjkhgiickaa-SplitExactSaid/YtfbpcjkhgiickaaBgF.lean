/- The document's split walked. No statement of the seed is proved here. -/
import Derived.Test.YtfbpcjkhgiickaaBgE
import Derived.Test.YtfbpcjkhgiickaaSpX
namespace Go.Proofs.Ytfbpcjkhgiickaa.Pay
open Go Go.RowKit
set_option linter.unusedVariables false
set_option linter.unusedSimpArgs false
set_option linter.unusedSectionVars false

/-- Down: nothing is added. -/
theorem md_down {a b c : Int} (ha : 0 ≤ a ∧ a ≤ 9223372036854775807) (hb : 0 ≤ b) (hbc : b ≤ c) (hc : 0 < c) : mdOk a b c 0 = true ∧ mdR a b c 0 = ((a.toNat * b.toNat / c.toNat : Nat) : Int) := by
  have e1 : a.natAbs = a.toNat := by omega
  have e2 : b.natAbs = b.toNat := by omega
  have e3 : c.natAbs = c.toNat := by omega
  have hm : ∀ q r C, moreB 0 q r C = false := fun q r C => by unfold moreB; rw [decide_eq_false_iff_not]; omega
  have hq : mdQ a b c 0 = a.toNat * b.toNat / c.toNat := by
    unfold mdQ mdN
    rw [hm, e1, e2, e3]; simp
  have hle : a.toNat * b.toNat / c.toNat ≤ a.toNat := by
    have h1 : a.toNat * b.toNat ≤ a.toNat * c.toNat := Nat.mul_le_mul_left _ (by omega)
    have h2 := Nat.div_le_div_right (c := c.toNat) h1
    rwa [Nat.mul_div_cancel _ (by omega)] at h2
  have hok : mdOk a b c 0 = true := by unfold mdOk; rw [hq, decide_eq_true_iff]; omega
  have hmi : mdMinus a b c = false := by
    unfold mdMinus signB
    rw [decide_eq_false (by omega : ¬ a < 0), decide_eq_false (by omega : ¬ b < 0), decide_eq_false (by omega : ¬ c < 0)]; rfl
  refine ⟨hok, ?_⟩
  unfold mdR
  rw [hok, hmi, hq]; simp
theorem aheadK_step (c : Int → Int → Int) (i : Int) (k : Nat) : (List.range (k + 1)).countP (fun (j : Nat) => decide (c (j : Int) i < 0)) = (List.range k).countP (fun (j : Nat) => decide (c (j : Int) i < 0)) + if c (k : Int) i < 0 then 1 else 0 := by
  rw [List.range_succ, List.countP_append]
  by_cases h : c (k : Int) i < 0 <;> simp [h]
def ahK (c : Int → Int → Int) (i : Int) (k : Nat) : Nat := (List.range k).countP (fun (j : Nat) => decide (c (j : Int) i < 0))
theorem cS_neg (T S : Int) (wf pf : Nat → Int) (j i : Nat) : (cS T S wf pf (j : Int) (i : Int) < 0) = (lessB T S wf pf i j = true ∨ (j < i ∧ ¬ lessB T S wf pf j i = true)) := by
  unfold cS
  rw [show (i : Int).toNat = i from rfl, show (j : Int).toNat = j from rfl]
  apply propext
  by_cases h1 : lessB T S wf pf i j = true
  · rw [if_pos h1]; simp [h1]
  · rw [if_neg h1]
    by_cases h2 : lessB T S wf pf j i = true
    · rw [if_pos h2]; simp [h1, h2]
    · rw [if_neg h2]; simp [h1, h2]; omega
set_option maxHeartbeats 40000000 in
theorem refSplit_ok (T : Int) (ws : List Int) (hT : in64 T) (h0 : spE T ws = 0) : Gives Try.prog 13 [.d (dI T), .d (.list 1 (ws.map dI))] (.d (.list 1 ((spS T ws).map dI))) := by
  have hsp : ws.length ≤ 60 ∧ 0 ≤ T ∧ (∀ x ∈ ws, 0 ≤ x) ∧ ws.sum ≤ 9223372036854775807 ∧ 0 < ws.sum := by
    unfold spE at h0
    split at h0
    · simp at h0
    rename_i h60
    split at h0
    · simp at h0
    rename_i hneg
    split at h0
    · simp at h0
    rename_i hs
    split at h0
    · simp at h0
    rename_i hz
    have hall : ∀ x ∈ ws, 0 ≤ x := fun x hx => by
      have h1 : (ws.any fun w => decide (w < 0)) = false := by
        cases q : (ws.any fun w => decide (w < 0)) with
        | false => rfl
        | true => exact absurd (.inr q) hneg
      rw [List.any_eq_false] at h1
      have := h1 x hx
      simp at this; omega
    have := sum_nonneg hall
    unfold sumB at hs
    simp at hs
    exact ⟨by omega, by omega, hall, hs, by omega⟩
  obtain ⟨h60, hT0, hws0, hsm, hs0⟩ := hsp
  have hwle : ∀ x ∈ ws, x ≤ ws.sum := fun x hx => by
    obtain ⟨k, hk, rfl⟩ := List.getElem_of_mem hx
    have h1 := sum_take_le hws0 (k + 1)
    have h2 := sum_nonneg (l := ws.take k) fun y hy => hws0 y (List.mem_of_mem_take hy)
    rw [sum_take hk] at h1
    omega
  have hsum := refSum_ok ws (fun x hx => by have := hws0 x hx; have := hwle x hx; unfold in64; omega) (by omega)
  have hrs : rsum ws = (ws.sum, true) := by
    unfold rsum
    rw [rsum_nn ws 0 (by decide) (by decide) fun x hx => ⟨hws0 x hx, by have := hwle x hx; omega⟩, Int.zero_add, if_pos hsm]
  rw [hrs] at hsum
  unfold in64 at hT
  unfold spS
  rw [if_pos h0]
  have hle := left_le (t := T.toNat) (s := ws.sum.toNat) (n := ws.length) (w := fun i => (spW ws i).toNat) (by omega) (sum_spW hws0)
  have hmono := fun k h => sumN_mono (spN T ws) (k := k) (n := ws.length) h
  have hleft : spL T ws = T.toNat - sumN (spN T ws) ws.length := rfl
  have hle2 : sumN (spN T ws) ws.length ≤ T.toNat ∧ T.toNat - sumN (spN T ws) ws.length ≤ ws.length := hle
  have hsF : ∀ i, splitF T ws i = spP T ws i + if ahead (cS T ws.sum (spW ws) (spP T ws)) ws.length i < spL T ws then 1 else 0 := fun i => rfl
  have hpb : ∀ i, 0 ≤ spP T ws i ∧ spP T ws i ≤ T := fun i => by
    have : spN T ws i ≤ T.toNat := by
      unfold spN
      have h1 : (spW ws i).toNat ≤ ws.sum.toNat := by
        unfold spW
        cases hq : ws[i]? with
        | none => simp
        | some x => have := hwle x (List.mem_of_getElem? hq); simp; omega
      have h2 := Nat.div_le_div_right (c := ws.sum.toNat) (Nat.mul_le_mul_left T.toNat h1)
      rwa [Nat.mul_div_cancel _ (by omega)] at h2
    unfold spP; omega
  have hpn : ∀ i, spP T ws i = (spN T ws i : Int) := fun i => rfl
  have hwat : ∀ k (h : k < ws.length), spW ws k = ws[k] := fun k h => by unfold spW; rw [List.getElem?_eq_getElem h]; rfl
  have hwn : ∀ i, i < ws.length → inN (spW ws i) := fun i hi => by
    rw [hwat i hi]
    have := hws0 _ (List.getElem_mem hi)
    have := hwle _ (List.getElem_mem hi)
    unfold inN; omega
  have hab := fun i j hi hj => above_ok T ws.sum (spW ws) (spP T ws) ws.length (by unfold inN; omega) (by unfold inN; omega) hwn (fun i hi => by have := hpb i; unfold inN; omega) h60 i j hi hj
  have hcs := cS_neg T ws.sum (spW ws) (spP T ws)
  have hmd : ∀ k (h : k < ws.length), Gives Try.prog 24 [.d (dI T), .d (dI ws[k]), .d (dI ws.sum), .d (dI 0)] (.tup [.d (dI (spP T ws k)), .d (.bool true)]) := fun k h => by
    have h1 := hws0 _ (List.getElem_mem h)
    have h2 := hwle _ (List.getElem_mem h)
    have h3 := md_down (a := T) (b := ws[k]) (c := ws.sum) (by omega) h1 h2 hs0
    have h4 := mulDivB_ok T ws[k] ws.sum 0 (by unfold in64; omega) (by unfold in64; omega) (by unfold in64; omega) (by omega) (by unfold in64; omega)
    rw [h3.1, h3.2] at h4
    have h5 : spP T ws k = ((T.toNat * ws[k].toNat / ws.sum.toNat : Nat) : Int) := by rw [hpn]; unfold spN; rw [hwat k h]
    rw [h5]; exact h4
  rw [← map_spW] at hab
  rw [← rowF_map]
  obtain ⟨S, hS⟩ : ∃ S, ws.sum = S := ⟨_, rfl⟩
  obtain ⟨n, hn⟩ : ∃ n, ws.length = n := ⟨_, rfl⟩
  obtain ⟨W, hW⟩ : ∃ W, spW ws = W := ⟨_, rfl⟩
  obtain ⟨P, hP⟩ : ∃ W, spP T ws = W := ⟨_, rfl⟩
  obtain ⟨N, hN⟩ : ∃ W, spN T ws = W := ⟨_, rfl⟩
  obtain ⟨F, hF⟩ : ∃ W, splitF T ws = W := ⟨_, rfl⟩
  obtain ⟨lf, hlf⟩ : ∃ W, spL T ws = W := ⟨_, rfl⟩
  try simp only [hS, hn, hW, hP, hN, hF, hlf] at hsum
  try simp only [hS, hn, hW, hP, hN, hF, hlf] at hle2
  try simp only [hS, hn, hW, hP, hN, hF, hlf] at hmono
  try simp only [hS, hn, hW, hP, hN, hF, hlf] at hleft
  try simp only [hS, hn, hW, hP, hN, hF, hlf] at hsF
  try simp only [hS, hn, hW, hP, hN, hF, hlf] at hpb
  try simp only [hS, hn, hW, hP, hN, hF, hlf] at hpn
  try simp only [hS, hn, hW, hP, hN, hF, hlf] at hwat
  try simp only [hS, hn, hW, hP, hN, hF, hlf] at hab
  try simp only [hS, hn, hW, hP, hN, hF, hlf] at hcs
  try simp only [hS, hn, hW, hP, hN, hF, hlf] at hmd
  try simp only [hS, hn, hW, hP, hN, hF, hlf] at hwn
  try simp only [hS, hn, hW, hP, hN, hF, hlf] at h60
  rw [hn, hF]
  have hs00 : sumN N 0 = 0 := rfl
  have hz0 : rowF P 0 = [] := rfl
  have hz1 : rowF F 0 = [] := rfl
  refine Gives.enter tabOk Try.func13 rfl (by show 2 ≤ 96; decide) ?_
  simp only [Try.f13]
  refine WpC.seq (WpC.ops tabOk (r := []) (by simp -implicitDefEqProofs [hn, hs00, hz0, hz1] <;> rfl) rfl ?_)
  refine WpC.seq ?_
  refine WpC.region ?_
  refine WpO.run tabOk 1 (by simp -implicitDefEqProofs [hn, hs00, hz0, hz1] <;> first | exact ⟨rfl, rfl⟩ | rfl) ?_
  refine WpO.data (by simp) rfl (by simp -implicitDefEqProofs [hn, hs00, hz0, hz1] <;> rfl) (by simp -implicitDefEqProofs [hn, hs00, hz0, hz1] <;> rfl) (by simp -implicitDefEqProofs [hn, hs00, hz0, hz1] <;> rfl) call_11 (by simp) (hsum) (by rfl) (by simp -implicitDefEqProofs [hn, hs00, hz0, hz1] <;> rfl) ?_
  refine WpO.run tabOk 5 (by simp -implicitDefEqProofs [hn, hs00, hz0, hz1] <;> first | exact ⟨rfl, rfl⟩ | rfl) ?_
  refine WpO.nil ?_
  refine WpC.seq (WpC.ops tabOk (r := []) (by simp -implicitDefEqProofs [hn, hs00, hz0, hz1] <;> rfl) rfl ?_)
  refine WpC.gh (Gh.nilArr 3 1 (t := 7) (by simp) (by simp)) ?_
  refine WpC.seq (WpC.ops tabOk (r := []) (by simp -implicitDefEqProofs [hn, hs00, hz0, hz1] <;> rfl) rfl ?_)
  refine WpC.seq ?_
  refine WpC.seq (WpC.ops tabOk (r := []) (by simp -implicitDefEqProofs [hn, hs00, hz0, hz1] <;> rfl) rfl ?_)
  refine WpC.block ?_
  refine WpC.loopK [0, 1, 5] [7, 8, 9] (n) (() : Unit) (fun k _ => [(7, .sl 0 k), (8, .d (dI (T - (sumN N k : Nat)))), (9, .d (.int .i64 k))]) (fun k _ => [.arr 3 1 (rowF P k)]) (fun k _ => True) (by simp -implicitDefEqProofs [hn, hs00, hz0, hz1] <;> rfl) (Gh.cut' [7, 8, 9, 0, 1, 5] 1 (by simp -implicitDefEqProofs [hn, hs00, hz0, hz1]) (by simp -implicitDefEqProofs [hn, hs00, hz0, hz1]) rfl (by simp) (by simp) (by simp)) (by simp) ?_
  rintro k ⟨⟩ hk hi
  simp only [List.cons_append, List.nil_append]
  refine WpC.seq ?_
  refine WpC.seq (WpC.ops tabOk (r := []) (by simp -implicitDefEqProofs [hn, hs00, hz0, hz1] <;> rfl) rfl ?_)
  refine WpC.condD (k < n) (by simp -implicitDefEqProofs [hn, hs00, hz0, hz1] <;> omega) (fun hlt => ?_) (fun hge => ?_)
  · refine WpC.skip ?_
    have hkl : k < ws.length := by omega
    have hm := hmd k hlt
    obtain ⟨x, hx⟩ : ∃ x, ws[k] = x := ⟨_, rfl⟩
    rw [hx] at hm
    have hst := sumN_step N k
    have hm1 := hmono k (by omega)
    have hm2 := hmono (k + 1) (by omega)
    have hro := rowF_snoc P k
    have hpk := hpn k
    have hpk2 := hpb k
    have hlw : IntKind.i64.wrap (T - (sumN N k : Nat) - P k) = T - (sumN N (k + 1) : Nat) := by rw [wrapI (by omega) (by omega)]; omega
    have hkw : IntKind.i64.wrap ((k : Int) + 1) = k + 1 := wrapI (by omega) (by omega)
    have hks : k ≤ 8589934591 := by omega
    refine WpC.seq ?_
    refine WpC.block ?_
    refine WpC.seq ?_
    refine WpC.region ?_
    refine WpO.run tabOk 6 (by simp -implicitDefEqProofs [hn, hs00, hz0, hz1, hlt, hkl, hx, hlw, hkw, hks] <;> first | exact ⟨rfl, rfl⟩ | rfl) ?_
    refine WpO.data (by simp) rfl (by simp -implicitDefEqProofs [hn, hs00, hz0, hz1, hlt, hkl, hx, hlw, hkw, hks] <;> rfl) (by simp -implicitDefEqProofs [hn, hs00, hz0, hz1, hlt, hkl, hx, hlw, hkw, hks] <;> rfl) (by simp -implicitDefEqProofs [hn, hs00, hz0, hz1, hlt, hkl, hx, hlw, hkw, hks] <;> rfl) call_24 (by simp) (hm) (by rfl) (by simp -implicitDefEqProofs [hn, hs00, hz0, hz1, hlt, hkl, hx, hlw, hkw, hks] <;> rfl) ?_
    refine WpO.run tabOk 5 (by simp -implicitDefEqProofs [hn, hs00, hz0, hz1, hlt, hkl, hx, hlw, hkw, hks] <;> first | exact ⟨rfl, rfl⟩ | rfl) ?_
    refine WpO.nil ?_
    refine WpC.seq (WpC.ops tabOk (r := []) (by simp -implicitDefEqProofs [hn, hs00, hz0, hz1, hlt, hkl, hx, hlw, hkw, hks] <;> rfl) rfl ?_)
    refine WpC.ops tabOk (r := []) (by simp -implicitDefEqProofs [hn, hs00, hz0, hz1, hlt, hkl, hx, hlw, hkw, hks] <;> rfl) rfl ?_
    refine WpC.ops tabOk (r := []) (by simp -implicitDefEqProofs [hn, hs00, hz0, hz1, hlt, hkl, hx, hlw, hkw, hks] <;> rfl) rfl ?_
    exact ⟨hlt, (), trivial, Gh.pick [7, 8, 9, 0, 1, 5] [2] (by simp -implicitDefEqProofs [hn, hs00, hz0, hz1, hlt, hkl, hx, hlw, hkw, hks, hro]; rfl) (by simp -implicitDefEqProofs [hn, hs00, hz0, hz1, hlt, hkl, hx, hlw, hkw, hks, hro]) (by simp) (by simp) (by simp; rfl) (by simp -implicitDefEqProofs [hn, hs00, hz0, hz1, hlt, hkl, hx, hlw, hkw, hks, hro]) (by simp)⟩
  · refine WpC.exit ?_
    obtain rfl : n = k := by omega
    have hL : T - (sumN N n : Nat) = (lf : Int) := by omega
    rw [hL]
    refine WpC.gh (Gh.frz [0]) ?_
    refine WpC.gh (Gh.view (t := 7) (x := .sl 0 n) (y := .d (.list 1 (rowF P n))) (by simp) (by simp)) ?_
    refine WpC.seq (WpC.ops tabOk (r := []) (by simp -implicitDefEqProofs [hn, hs00, hz0, hz1] <;> rfl) rfl ?_)
    refine WpC.seq ?_
    refine WpC.gh (Gh.nilArr 3 1 (t := 12) (by simp) (by simp)) ?_
    refine WpC.seq (WpC.ops tabOk (r := []) (by simp -implicitDefEqProofs [hn, hs00, hz0, hz1] <;> rfl) rfl ?_)
    refine WpC.block ?_
    refine WpC.loopK [0, 1, 5, 7, 8] [12, 13] (n) (() : Unit) (fun k _ => [(12, .sl 0 k), (13, .d (.int .i64 k))]) (fun k _ => [.arr 3 1 (rowF F k)]) (fun k _ => True) (by simp -implicitDefEqProofs [hn, hs00, hz0, hz1] <;> rfl) (Gh.pick [12, 13, 0, 1, 5, 7, 8] [1] (by simp; rfl) (env' := [(12, .sl 0 0), (13, .d (dI 0)), (0, .d (dI T)), (1, .d (.list 1 (ws.map dI))), (5, .d (dI S)), (7, .d (.list 1 (rowF P n))), (8, .d (dI lf))]) (by simp) (by simp) (by simp) (by simp; rfl) (by simp [hz1]) (by simp)) (by simp) ?_
    rintro k ⟨⟩ hk hi
    simp only [List.cons_append, List.nil_append]
    refine WpC.seq ?_
    refine WpC.seq (WpC.ops tabOk (r := []) (by simp -implicitDefEqProofs [hn, hs00, hz0, hz1] <;> rfl) rfl ?_)
    refine WpC.condD (k < n) (by simp -implicitDefEqProofs [hn, hs00, hz0, hz1] <;> omega) (fun hlt => ?_) (fun hge => ?_)
    · refine WpC.skip ?_
      have hi0 := hi
      obtain ⟨i, rfl⟩ : ∃ i, i = k := ⟨k, rfl⟩
      have hin : i < n := hlt
      have hil : i < ws.length := by omega
      have hkw : IntKind.i64.wrap ((i : Int) + 1) = i + 1 := wrapI (by omega) (by omega)
      have hks : i ≤ 8589934591 := by omega
      have hro := rowF_snoc F i
      have hFi := hsF i
      have hpi := hpb i
      obtain ⟨c, hc⟩ : ∃ c, cS T S W P = c := ⟨_, rfl⟩
      rw [hc] at hcs hFi
      have hah : ahead c n i = ahK c i n := rfl
      have hah0 : ahK c i 0 = 0 := rfl
      rw [hah] at hFi
      refine WpC.seq ?_
      refine WpC.block ?_
      refine WpC.seq (WpC.ops tabOk (r := []) (by simp -implicitDefEqProofs [hn, hs00, hz0, hz1, hlt, hin, hil, hkw, hks, hah0] <;> rfl) rfl ?_)
      refine WpC.seq ?_
      refine WpC.seq (WpC.ops tabOk (r := []) (by simp -implicitDefEqProofs [hn, hs00, hz0, hz1, hlt, hin, hil, hkw, hks, hah0] <;> rfl) rfl ?_)
      refine WpC.block ?_
      refine WpC.loopK [0, 1, 5, 7, 8, 12, 13] [14, 15] (n) (() : Unit) (fun k _ => [(14, .d (dI (ahK c i k : Nat))), (15, .d (.int .i64 k))]) (fun k _ => [.arr 3 1 (rowF F i)]) (fun k _ => True) (by simp -implicitDefEqProofs [hn, hs00, hz0, hz1, hlt, hin, hil, hkw, hks, hah0] <;> rfl) (Gh.cut' [14, 15, 0, 1, 5, 7, 8, 12, 13] 1 (by simp -implicitDefEqProofs [hn, hs00, hz0, hz1, hlt, hin, hil, hkw, hks, hah0]) (by simp -implicitDefEqProofs [hn, hs00, hz0, hz1, hlt, hin, hil, hkw, hks, hah0]) rfl (by simp) (by simp) (by simp)) (by simp) ?_
      rintro k ⟨⟩ hk hi
      simp only [List.cons_append, List.nil_append]
      refine WpC.seq ?_
      refine WpC.seq (WpC.ops tabOk (r := []) (by simp -implicitDefEqProofs [hn, hs00, hz0, hz1, hlt, hin, hil, hkw, hks, hah0] <;> rfl) rfl ?_)
      refine WpC.condD (k < n) (by simp -implicitDefEqProofs [hn, hs00, hz0, hz1, hlt, hin, hil, hkw, hks, hah0] <;> omega) (fun hlt => ?_) (fun hge => ?_)
      · refine WpC.skip ?_
        have hjl : k < ws.length := by omega
        have a1 := hab k i hlt hin
        have a2 := hab i k hin hlt
        have hst : ahK c i (k + 1) = ahK c i k + if c (k : Int) i < 0 then 1 else 0 := aheadK_step c i k
        have hcn := hcs k i
        have hjw : IntKind.i64.wrap ((k : Int) + 1) = k + 1 := wrapI (by omega) (by omega)
        have hak : ahK c i k ≤ k := by have := List.countP_le_length (p := fun (j : Nat) => decide (c (j : Int) i < 0)) (l := List.range k); simpa [ahK] using this
        have haw : IntKind.i64.wrap ((ahK c i k : Int) + 1) = (ahK c i k : Int) + 1 := wrapI (by omega) (by omega)
        refine WpC.seq ?_
        refine WpC.block ?_
        refine WpC.seq ?_
        refine WpC.val 79 (.d (.bool (decide (c (k : Int) i < 0)))) ?_ ?_
        · refine WpC.region ?_
          refine WpO.run tabOk 6 (by simp -implicitDefEqProofs [hn, hs00, hz0, hz1, hlt, hin, hil, hkw, hks, hah0, hlt, hjl, hjw, haw] <;> first | exact ⟨rfl, rfl⟩ | rfl) ?_
          refine WpO.data (by simp) rfl (by simp -implicitDefEqProofs [hn, hs00, hz0, hz1, hlt, hin, hil, hkw, hks, hah0, hlt, hjl, hjw, haw] <;> rfl) (by simp -implicitDefEqProofs [hn, hs00, hz0, hz1, hlt, hin, hil, hkw, hks, hah0, hlt, hjl, hjw, haw] <;> rfl) (by simp -implicitDefEqProofs [hn, hs00, hz0, hz1, hlt, hin, hil, hkw, hks, hah0, hlt, hjl, hjw, haw] <;> rfl) call_25 (by simp) (a1) (by rfl) (by simp -implicitDefEqProofs [hn, hs00, hz0, hz1, hlt, hin, hil, hkw, hks, hah0, hlt, hjl, hjw, haw] <;> rfl) ?_
          refine WpO.run tabOk 1 (by simp -implicitDefEqProofs [hn, hs00, hz0, hz1, hlt, hin, hil, hkw, hks, hah0, hlt, hjl, hjw, haw] <;> first | exact ⟨rfl, rfl⟩ | rfl) ?_
          refine WpO.splitB 65 (by simp -implicitDefEqProofs [hn, hs00, hz0, hz1, hlt, hin, hil, hkw, hks, hah0, hlt, hjl, hjw, haw] <;> rfl) (by rfl) (fun g65 => ?_) (fun g65 => ?_)
          · have g65' := g65; first | simp only [dT, dF] at g65' | try simp at g65'
            refine WpO.run tabOk 14 (by simp -implicitDefEqProofs [hn, hs00, hz0, hz1, hlt, hin, hil, hkw, hks, hah0, hlt, hjl, hjw, haw, g65] <;> first | exact ⟨rfl, rfl⟩ | rfl) ?_
            refine WpO.nil ?_
            refine ⟨rfl, Gh.only 79 23 ?_ (by first | rfl | simp -implicitDefEqProofs [hn, hs00, hz0, hz1, hlt, hin, hil, hkw, hks, hah0, hlt, hjl, hjw, haw, g65]) (by rfl)⟩
            simp -implicitDefEqProofs [hn, hs00, hz0, hz1, hlt, hin, hil, hkw, hks, hah0, hlt, hjl, hjw, haw, g65, g65', hcn]
          · have g65' := g65; first | simp only [dT, dF] at g65' | try simp at g65'
            refine WpO.run tabOk 4 (by simp -implicitDefEqProofs [hn, hs00, hz0, hz1, hlt, hin, hil, hkw, hks, hah0, hlt, hjl, hjw, haw, g65] <;> first | exact ⟨rfl, rfl⟩ | rfl) ?_
            refine WpO.splitB 69 (by simp -implicitDefEqProofs [hn, hs00, hz0, hz1, hlt, hin, hil, hkw, hks, hah0, hlt, hjl, hjw, haw, g65] <;> rfl) (by rfl) (fun g69 => ?_) (fun g69 => ?_)
            · have g69' := g69; first | simp only [dT, dF] at g69' | try simp at g69'
              refine WpO.run tabOk 6 (by simp -implicitDefEqProofs [hn, hs00, hz0, hz1, hlt, hin, hil, hkw, hks, hah0, hlt, hjl, hjw, haw, g65, g69] <;> first | exact ⟨rfl, rfl⟩ | rfl) ?_
              refine WpO.data (by simp) rfl (by simp -implicitDefEqProofs [hn, hs00, hz0, hz1, hlt, hin, hil, hkw, hks, hah0, hlt, hjl, hjw, haw, g65, g69] <;> rfl) (by simp -implicitDefEqProofs [hn, hs00, hz0, hz1, hlt, hin, hil, hkw, hks, hah0, hlt, hjl, hjw, haw, g65, g69] <;> rfl) (by simp -implicitDefEqProofs [hn, hs00, hz0, hz1, hlt, hin, hil, hkw, hks, hah0, hlt, hjl, hjw, haw, g65, g69] <;> rfl) call_25 (by simp) (a2) (by rfl) (by simp -implicitDefEqProofs [hn, hs00, hz0, hz1, hlt, hin, hil, hkw, hks, hah0, hlt, hjl, hjw, haw, g65, g69] <;> rfl) ?_
              refine WpO.run tabOk 3 (by simp -implicitDefEqProofs [hn, hs00, hz0, hz1, hlt, hin, hil, hkw, hks, hah0, hlt, hjl, hjw, haw, g65, g69] <;> first | exact ⟨rfl, rfl⟩ | rfl) ?_
              refine WpO.nil ?_
              refine ⟨rfl, Gh.only 79 24 ?_ (by first | rfl | simp -implicitDefEqProofs [hn, hs00, hz0, hz1, hlt, hin, hil, hkw, hks, hah0, hlt, hjl, hjw, haw, g65, g69]) (by rfl)⟩
              simp -implicitDefEqProofs [hn, hs00, hz0, hz1, hlt, hin, hil, hkw, hks, hah0, hlt, hjl, hjw, haw, g65, g69, g65', g69', hcn]
            · have g69' := g69; first | simp only [dT, dF] at g69' | try simp at g69'
              refine WpO.run tabOk 10 (by simp -implicitDefEqProofs [hn, hs00, hz0, hz1, hlt, hin, hil, hkw, hks, hah0, hlt, hjl, hjw, haw, g65, g69] <;> first | exact ⟨rfl, rfl⟩ | rfl) ?_
              refine WpO.nil ?_
              refine ⟨rfl, Gh.only 79 24 ?_ (by first | rfl | simp -implicitDefEqProofs [hn, hs00, hz0, hz1, hlt, hin, hil, hkw, hks, hah0, hlt, hjl, hjw, haw, g65, g69]) (by rfl)⟩
              simp -implicitDefEqProofs [hn, hs00, hz0, hz1, hlt, hin, hil, hkw, hks, hah0, hlt, hjl, hjw, haw, g65, g69, g65', g69', hcn]
        refine WpC.condD (c (k : Int) i < 0) (by simp -implicitDefEqProofs [hn, hs00, hz0, hz1, hlt, hin, hil, hkw, hks, hah0, hlt, hjl, hjw, haw]) (fun d79 => ?_) (fun d79 => ?_)
        · refine WpC.ops tabOk (r := []) (by simp -implicitDefEqProofs [hn, hs00, hz0, hz1, hlt, hin, hil, hkw, hks, hah0, hlt, hjl, hjw, haw, d79] <;> rfl) rfl ?_
          refine WpC.ops tabOk (r := []) (by simp -implicitDefEqProofs [hn, hs00, hz0, hz1, hlt, hin, hil, hkw, hks, hah0, hlt, hjl, hjw, haw, d79] <;> rfl) rfl ?_
          exact ⟨hlt, (), trivial, Gh.cut' [14, 15, 0, 1, 5, 7, 8, 12, 13] 1 (by simp -implicitDefEqProofs [hn, hs00, hz0, hz1, hlt, hin, hil, hkw, hks, hah0, hlt, hjl, hjw, haw, d79, hst]) (by simp -implicitDefEqProofs [hn, hs00, hz0, hz1, hlt, hin, hil, hkw, hks, hah0, hlt, hjl, hjw, haw, d79, hst]) rfl (by simp) (by simp) (by simp)⟩
        · refine WpC.skip ?_
          refine WpC.ops tabOk (r := []) (by simp -implicitDefEqProofs [hn, hs00, hz0, hz1, hlt, hin, hil, hkw, hks, hah0, hlt, hjl, hjw, haw, d79] <;> rfl) rfl ?_
          exact ⟨hlt, (), trivial, Gh.cut' [14, 15, 0, 1, 5, 7, 8, 12, 13] 1 (by simp -implicitDefEqProofs [hn, hs00, hz0, hz1, hlt, hin, hil, hkw, hks, hah0, hlt, hjl, hjw, haw, d79, hst]) (by simp -implicitDefEqProofs [hn, hs00, hz0, hz1, hlt, hin, hil, hkw, hks, hah0, hlt, hjl, hjw, haw, d79, hst]) rfl (by simp) (by simp) (by simp)⟩
      · refine WpC.exit ?_
        obtain rfl : n = k := by omega
        obtain ⟨A, hA⟩ : ∃ A, ahK c i n = A := ⟨_, rfl⟩
        rw [hA] at hFi ⊢
        have hFi2 : F i = P i + if A < lf then 1 else 0 := hFi
        have hpw : IntKind.i64.wrap (P i + 1) = P i + 1 ∨ P i = 9223372036854775807 := by
          by_cases h : P i = 9223372036854775807
          · exact .inr h
          · exact .inl (wrapI (by omega) (by omega))
        refine WpC.seq (WpC.ops tabOk (r := []) (by simp -implicitDefEqProofs [hn, hs00, hz0, hz1, hlt, hin, hil, hkw, hks, hah0] <;> rfl) rfl ?_)
        refine WpC.seq ?_
        refine WpC.seq (WpC.ops tabOk (r := []) (by simp -implicitDefEqProofs [hn, hs00, hz0, hz1, hlt, hin, hil, hkw, hks, hah0] <;> rfl) rfl ?_)
        refine WpC.condD (A < lf) (by simp -implicitDefEqProofs [hn, hs00, hz0, hz1, hlt, hin, hil, hkw, hks, hah0]) (fun d88 => ?_) (fun d88 => ?_)
        · have hlf : lf ≤ n := by omega
          have hpw : IntKind.i64.wrap (P i + 1) = P i + 1 := by
            have h1 := hmono (i + 1) hin
            have h2 := sumN_step N i
            have h3 := hpn i
            exact wrapI (by omega) (by omega)
          rw [if_pos d88] at hFi2
          rw [hFi2] at hro
          refine WpC.ops tabOk (r := []) (by simp -implicitDefEqProofs [hn, hs00, hz0, hz1, hlt, hin, hil, hkw, hks, hah0, d88, hpw] <;> rfl) rfl ?_
          refine WpC.ops tabOk (r := []) (by simp -implicitDefEqProofs [hn, hs00, hz0, hz1, hlt, hin, hil, hkw, hks, hah0, d88, hpw] <;> rfl) rfl ?_
          refine WpC.ops tabOk (r := []) (by simp -implicitDefEqProofs [hn, hs00, hz0, hz1, hlt, hin, hil, hkw, hks, hah0, d88, hpw] <;> rfl) rfl ?_
          exact ⟨hlt, (), trivial, Gh.pick [12, 13, 0, 1, 5, 7, 8] [2] (by simp -implicitDefEqProofs [hn, hs00, hz0, hz1, hlt, hin, hil, hkw, hks, hah0, d88, hpw, hro]; rfl) (by simp -implicitDefEqProofs [hn, hs00, hz0, hz1, hlt, hin, hil, hkw, hks, hah0, d88, hpw, hro]) (by simp) (by simp) (by simp; rfl) (by simp -implicitDefEqProofs [hn, hs00, hz0, hz1, hlt, hin, hil, hkw, hks, hah0, d88, hpw, hro]) (by simp)⟩
        · rw [if_neg d88] at hFi2
          rw [hFi2, Int.add_zero] at hro
          refine WpC.skip ?_
          refine WpC.ops tabOk (r := []) (by simp -implicitDefEqProofs [hn, hs00, hz0, hz1, hlt, hin, hil, hkw, hks, hah0, d88] <;> rfl) rfl ?_
          refine WpC.ops tabOk (r := []) (by simp -implicitDefEqProofs [hn, hs00, hz0, hz1, hlt, hin, hil, hkw, hks, hah0, d88] <;> rfl) rfl ?_
          exact ⟨hlt, (), trivial, Gh.pick [12, 13, 0, 1, 5, 7, 8] [2] (by simp -implicitDefEqProofs [hn, hs00, hz0, hz1, hlt, hin, hil, hkw, hks, hah0, d88, hro]; rfl) (by simp -implicitDefEqProofs [hn, hs00, hz0, hz1, hlt, hin, hil, hkw, hks, hah0, d88, hro]) (by simp) (by simp) (by simp; rfl) (by simp -implicitDefEqProofs [hn, hs00, hz0, hz1, hlt, hin, hil, hkw, hks, hah0, d88, hro]) (by simp)⟩
    · refine WpC.exit ?_
      obtain rfl : n = k := by omega
      refine WpC.seq (WpC.ops tabOk (r := []) (by simp -implicitDefEqProofs [hn, hs00, hz0, hz1] <;> rfl) rfl ?_)
      refine WpC.ret ?_
      try simp only [blockQ, seqQ]
      refine retD_i (by simp -implicitDefEqProofs [hn, hs00, hz0, hz1] <;> rfl) (by simp -implicitDefEqProofs [hn, hs00, hz0, hz1] <;> rfl) ?_
      simp -implicitDefEqProofs [hn, hs00, hz0, hz1]
end Go.Proofs.Ytfbpcjkhgiickaa.Pay
