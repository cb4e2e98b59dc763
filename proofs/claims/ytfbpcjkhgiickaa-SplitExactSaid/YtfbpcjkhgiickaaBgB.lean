/- Numbers of decimal digits: Of, trim, size, Compare walked. No statement of the seed is proved here. -/
import Derived.Test.YtfbpcjkhgiickaaBgA
namespace Go.Proofs.Ytfbpcjkhgiickaa.Pay
open Go Go.RowKit
set_option linter.unusedVariables false
set_option linter.unusedSimpArgs false
set_option linter.unusedSectionVars false

theorem trim_ok (g : Nat → Int) (n : Nat) (hn : n ≤ 1000000) : WpF Try.prog 39 [.sl 0 n] [.arr 3 1 (rowF g n)] fun r S => r = .sl 0 (trimN g n) ∧ S = [.arr 3 1 (rowF g n)] := by
  refine WpF.enter tabOk Try.func39 rfl (by show 1 ≤ 21; decide) ?_
  simp only [Try.f39]
  refine WpC.seq (WpC.ops tabOk (r := []) (by simp -implicitDefEqProofs <;> rfl) rfl ?_)
  refine WpC.seq ?_
  refine WpC.block ?_
  refine WpC.loopM [] [0] (fun k => k) (n : Nat) (fun k => [(0, .sl 0 k)]) (fun k => [.arr 3 1 (rowF g n)]) (fun k => k ≤ n ∧ trimN g k = trimN g n) (by simp -implicitDefEqProofs <;> rfl) (Gh.cut' [0] 1 (by simp -implicitDefEqProofs) (by simp -implicitDefEqProofs) rfl (by simp) (by simp) (by simp)) (⟨Nat.le_refl _, rfl⟩) ?_
  rintro k hi
  simp only [List.cons_append, List.nil_append]
  have hkn : k ≤ n := hi.1
  obtain ⟨q, hq⟩ : ∃ q, k - 1 = q := ⟨_, rfl⟩
  refine WpC.seq ?_
  refine WpC.seq ?_
  refine WpC.val 14 (.d (.bool (decide (0 < k ∧ g q = 0)))) ?_ ?_
  · refine WpC.region ?_
    refine WpO.run tabOk 4 (by simp -implicitDefEqProofs [hkn] <;> first | exact ⟨rfl, rfl⟩ | rfl) ?_
    refine WpO.splitB 6 (by simp -implicitDefEqProofs [hkn] <;> rfl) (by rfl) (fun g6 => ?_) (fun g6 => ?_)
    · have g6' := g6; first | simp only [dT, dF] at g6' | try simp at g6'
      have hk0 : 0 < k := by simpa using g6
      have hqn : q < n := by omega
      have hqk : q < k := by omega
      have hw : IntKind.i64.wrap ((k : Int) - 1) = (q : Int) := by rw [wrapI (by omega) (by omega)]; omega
      refine WpO.run tabOk 8 (by simp -implicitDefEqProofs [hkn, g6, hk0, hqn, hqk, hw] <;> first | exact ⟨rfl, rfl⟩ | rfl) ?_
      refine WpO.nil ?_
      refine ⟨rfl, Gh.only 14 13 ?_ (by first | rfl | simp -implicitDefEqProofs [hkn, g6, hk0, hqn, hqk, hw]) (by rfl)⟩
      simp -implicitDefEqProofs [hkn, g6, hk0, hqn, hqk, hw, g6']
    · have g6' := g6; first | simp only [dT, dF] at g6' | try simp at g6'
      refine WpO.run tabOk 8 (by simp -implicitDefEqProofs [hkn, g6] <;> first | exact ⟨rfl, rfl⟩ | rfl) ?_
      refine WpO.nil ?_
      refine ⟨rfl, Gh.only 14 13 ?_ (by first | rfl | simp -implicitDefEqProofs [hkn, g6]) (by rfl)⟩
      simp -implicitDefEqProofs [hkn, g6, g6']
  refine WpC.condD (0 < k ∧ g q = 0) (by simp -implicitDefEqProofs [hkn]) (fun d14 => ?_) (fun d14 => ?_)
  · have hkq : k = q + 1 := by omega
    have hw : IntKind.i64.wrap ((k : Int) - 1) = (q : Int) := by rw [wrapI (by omega) (by omega)]; omega
    have hqk : q ≤ k := by omega
    have htr : trimN g q = trimN g n := by
      rw [← hi.2, hkq]
      exact (if_pos d14.2).symm
    refine WpC.skip ?_
    refine WpC.block ?_
    refine WpC.ops tabOk (r := []) (by simp -implicitDefEqProofs [hkn, d14, hw, hqk] <;> rfl) rfl ?_
    exact ⟨q, ⟨by omega, htr⟩, by omega, Gh.cut' [0] 1 (by simp -implicitDefEqProofs [hkn, d14, hw, hqk]) (by simp -implicitDefEqProofs [hkn, d14, hw, hqk]) rfl (by simp) (by simp) (by simp)⟩
  · refine WpC.exit ?_
    refine WpC.seq (WpC.ops tabOk (r := []) (by simp -implicitDefEqProofs [hkn, d14] <;> rfl) rfl ?_)
    refine WpC.ret ?_
    have h2 : trimN g n = k := by
      rw [← hi.2]
      refine trimN_stop ?_
      rcases Nat.eq_zero_or_pos k with h | h
      · exact .inl h
      · exact .inr fun e => d14 ⟨h, by rw [← hq]; exact e⟩
    refine ⟨.inr rfl, _, by simp -implicitDefEqProofs <;> rfl, ?_, by simp⟩
    simp [h2]
def encB (m : Bool) (x : Nat) : D := .agg [.bool m, .list 1 ((dgs x).map dI)]
attribute [simp] encB
theorem dgs_19 {n : Nat} (h : n ≤ 9223372036854775808) : (dgs n).length ≤ 19 := dgs_len_le (by omega)
theorem tmod10 {m : Int} (h : -9223372036854775808 ≤ m ∧ m ≤ 9223372036854775807) : (if m.tmod 10 < 0 then IntKind.i64.wrap (-m.tmod 10) else m.tmod 10) = ((m.natAbs % 10 : Nat) : Int) ∧ (IntKind.i64.wrap (m.tdiv 10)).natAbs = m.natAbs / 10 ∧ in64 (IntKind.i64.wrap (m.tdiv 10)) := by
  have h1 : (m.tmod 10).natAbs = m.natAbs % 10 := Int.natAbs_tmod ..
  have h2 : (m.tdiv 10).natAbs = m.natAbs / 10 := Int.natAbs_tdiv ..
  have h3 : IntKind.i64.wrap (m.tdiv 10) = m.tdiv 10 := wrapI (by omega) (by omega)
  rw [h3]
  refine ⟨?_, h2, by unfold in64; omega⟩
  split
  · rw [wrapI (by omega) (by omega)]; omega
  · omega
theorem of_ok (n : Int) (hn : in64 n) : Gives Try.prog 38 [.d (dI n)] (.d (encB (decide (n < 0)) n.natAbs)) := by
  unfold in64 at hn
  refine Gives.enter tabOk Try.func38 rfl (by show 1 ≤ 25; decide) ?_
  simp only [Try.f38]
  refine WpC.seq (WpC.ops tabOk (r := []) (by simp -implicitDefEqProofs <;> rfl) rfl ?_)
  refine WpC.seq (WpC.ops tabOk (r := []) (by simp -implicitDefEqProofs <;> rfl) rfl ?_)
  refine WpC.seq ?_
  refine WpC.block ?_
  refine WpC.loopM [2, 3] [0] (fun x => x.1.natAbs) ((n, []) : Int × List Int) (fun x => [(0, .d (dI x.1))]) (fun x => [.cells 65 [.d (.bool false), .d .nil], .cells 65 [.d (.bool (decide (n < 0))), .sl 2 x.2.length], .arr 3 1 (x.2.map dI)]) (fun x => in64 x.1 ∧ dgs n.natAbs = x.2 ++ dgs x.1.natAbs) (by simp -implicitDefEqProofs <;> rfl) (Gh.trans (Gh.nilCell (id := 1) (off := 1) (t := 65) (cs := [.d (.bool (decide (n < 0))), .d .nil]) 3 1 (by simp) (by simp) (by simp)) (Gh.cut' [0, 2, 3] 3 (by simp) (by simp) rfl (by simp) (by simp) (by simp))) (⟨hn, rfl⟩) ?_
  rintro x hi
  simp only [List.cons_append, List.nil_append]
  obtain ⟨m, l⟩ := x
  obtain ⟨h1, h2⟩ := hi
  unfold in64 at h1
  simp only at h1 h2 ⊢
  obtain ⟨t1, t2, t3⟩ := tmod10 h1
  have h19 := dgs_19 (n := n.natAbs) (by omega)
  have hll : l.length ≤ 8589934591 := by rw [h2, List.length_append] at h19; omega
  obtain ⟨d, hd⟩ : ∃ d, m.natAbs % 10 = d := ⟨_, rfl⟩
  rw [hd] at t1
  refine WpC.seq ?_
  refine WpC.seq (WpC.ops tabOk (r := []) (by simp -implicitDefEqProofs [hll] <;> rfl) rfl ?_)
  refine WpC.condD (¬ m = 0) (by simp -implicitDefEqProofs [hll]) (fun d9 => ?_) (fun d9 => ?_)
  · refine WpC.skip ?_
    refine WpC.block ?_
    refine WpC.seq (WpC.ops tabOk (r := []) (by simp -implicitDefEqProofs [hll, d9] <;> rfl) rfl ?_)
    refine WpC.seq ?_
    refine WpC.seq (WpC.ops tabOk (r := []) (by simp -implicitDefEqProofs [hll, d9] <;> rfl) rfl ?_)
    refine WpC.join ⟨[(0, .d (dI m)), (2, .ref 0 0), (3, .ref 1 0), (4, .d (dI d))], [.cells 65 [.d (.bool false), .d .nil], .cells 65 [.d (.bool (decide (n < 0))), .sl 2 l.length], .arr 3 1 (l.map dI)], 25, 0⟩ ?_ ?_
    · refine WpC.condD (m.tmod 10 < 0) (by simp -implicitDefEqProofs [hll, d9]) (fun d13 => ?_) (fun d13 => ?_)
      · refine WpC.ops tabOk (r := []) (by simp -implicitDefEqProofs [hll, d9, d13] <;> rfl) rfl ?_
        have t4 := t1
        simp only [d13, if_true, if_false] at t4
        exact ⟨rfl, Gh.cut' [0, 2, 3, 4] 3 (by simp -implicitDefEqProofs [hll, d9, d13, t4]) (by simp -implicitDefEqProofs [hll, d9, d13, t4]) rfl (by simp) (by simp) (by simp)⟩
      · refine WpC.skip ?_
        have t4 := t1
        simp only [d13, if_true, if_false] at t4
        exact ⟨rfl, Gh.cut' [0, 2, 3, 4] 3 (by simp -implicitDefEqProofs [hll, d9, d13, t4]) (by simp -implicitDefEqProofs [hll, d9, d13, t4]) rfl (by simp) (by simp) (by simp)⟩
    · refine WpC.seq (WpC.ops tabOk (r := []) (by simp -implicitDefEqProofs [hll, d9] <;> rfl) rfl ?_)
      refine WpC.ops tabOk (r := []) (by simp -implicitDefEqProofs [hll, d9] <;> rfl) rfl ?_
      exact ⟨(IntKind.i64.wrap (m.tdiv 10), l ++ [(d : Int)]), ⟨t3, by rw [h2, t2, dgs_pos (by omega), hd]; simp⟩, by simp only [t2]; omega, Gh.pick [0, 2, 3] [0, 1, 4] (by simp; rfl) (by simp) (by simp) (by simp) (by simp; rfl) (by simp) (by simp)⟩
  · refine WpC.exit ?_
    refine WpC.seq (WpC.ops tabOk (r := []) (by simp -implicitDefEqProofs [hll, d9] <;> rfl) rfl ?_)
    refine WpC.ret ?_
    try simp only [blockQ, seqQ]
    refine retD_i (by simp -implicitDefEqProofs [hll, d9] <;> rfl) (by simp -implicitDefEqProofs [hll, d9] <;> rfl) ?_
    have hm : m = 0 := Classical.not_not.1 d9
    subst hm
    simp [h2, dgs_zero]
def sizeL (a b : List Int) : Int := if a.length = b.length then cmpL a b a.length else if a.length < b.length then -1 else 1
theorem size_dgs (x y : Nat) : sizeL (dgs x) (dgs y) = sgnI ((x : Int) - y) := size_sgn x y
theorem sizeB_ok (a b : List Int) (ha : a.length ≤ 1000000) (hb : b.length ≤ 1000000) : Gives Try.prog 40 [.d (.list 1 (a.map dI)), .d (.list 1 (b.map dI))] (.d (dI (sizeL a b))) := by
  unfold sizeL
  refine Gives.enter tabOk Try.func40 rfl (by show 2 ≤ 41; decide) ?_
  simp only [Try.f40]
  refine WpC.seq (WpC.ops tabOk (r := []) (by simp -implicitDefEqProofs <;> rfl) rfl ?_)
  refine WpC.seq ?_
  refine WpC.seq (WpC.ops tabOk (r := []) (by simp -implicitDefEqProofs <;> rfl) rfl ?_)
  refine WpC.condD (¬ (a.length : Int) = b.length) (by simp -implicitDefEqProofs) (fun d10 => ?_) (fun d10 => ?_)
  · refine WpC.seq ?_
    refine WpC.seq (WpC.ops tabOk (r := []) (by simp -implicitDefEqProofs [d10] <;> rfl) rfl ?_)
    refine WpC.condD ((a.length : Int) < b.length) (by simp -implicitDefEqProofs [d10]) (fun d15 => ?_) (fun d15 => ?_)
    · refine WpC.seq (WpC.ops tabOk (r := []) (by simp -implicitDefEqProofs [d10, d15] <;> rfl) rfl ?_)
      refine WpC.ret ?_
      try simp only [blockQ, seqQ]
      refine retD_i (by simp -implicitDefEqProofs [d10, d15] <;> rfl) (by simp -implicitDefEqProofs [d10, d15] <;> rfl) ?_
      have h1 : ¬ a.length = b.length := by omega
      have h2 : a.length < b.length := by omega
      simp [h1, h2]
    · refine WpC.skip ?_
      refine WpC.seq (WpC.ops tabOk (r := []) (by simp -implicitDefEqProofs [d10, d15] <;> rfl) rfl ?_)
      refine WpC.ret ?_
      try simp only [blockQ, seqQ]
      refine retD_i (by simp -implicitDefEqProofs [d10, d15] <;> rfl) (by simp -implicitDefEqProofs [d10, d15] <;> rfl) ?_
      have h1 : ¬ a.length = b.length := by omega
      have h2 : ¬ a.length < b.length := by omega
      simp [h1, h2]
  · have hab : a.length = b.length := by omega
    have hw0 : IntKind.i64.wrap ((a.length : Int) - 1) = (a.length : Int) - 1 := wrapI (by omega) (by omega)
    rw [if_pos hab]
    obtain ⟨R, hR⟩ : ∃ R, cmpL a b a.length = R := ⟨_, rfl⟩
    rw [hR]
    refine WpC.skip ?_
    refine WpC.seq ?_
    refine WpC.seq (WpC.ops tabOk (r := []) (by simp -implicitDefEqProofs [d10, hw0] <;> rfl) rfl ?_)
    refine WpC.block ?_
    refine WpC.loopM [0, 1] [5] (fun k => k) (a.length : Nat) (fun k => [(5, .d (dI ((k : Int) - 1)))]) (fun k => []) (fun k => k ≤ a.length ∧ cmpL a b k = R) (by simp -implicitDefEqProofs [d10, hw0] <;> rfl) (Gh.cut' [5, 0, 1] 0 (by simp -implicitDefEqProofs [d10, hw0]) (by simp -implicitDefEqProofs [d10, hw0]) rfl (by simp) (by simp) (by simp)) (⟨Nat.le_refl _, hR⟩) ?_
    rintro k hi
    simp only [List.cons_append, List.nil_append]
    have hkn : k ≤ a.length := hi.1
    have hkR := hi.2
    refine WpC.seq ?_
    refine WpC.seq (WpC.ops tabOk (r := []) (by simp -implicitDefEqProofs [d10, hw0] <;> rfl) rfl ?_)
    refine WpC.condD ((0 : Int) ≤ (k : Int) - 1) (by simp -implicitDefEqProofs [d10, hw0]) (fun d20 => ?_) (fun d20 => ?_)
    · obtain ⟨q, rfl⟩ : ∃ q, k = q + 1 := ⟨k - 1, by omega⟩
      have hqa : q < a.length := by omega
      have hqb : q < b.length := by omega
      obtain ⟨u, hu⟩ : ∃ u, a[q] = u := ⟨_, rfl⟩
      obtain ⟨v, hv⟩ : ∃ v, b[q] = v := ⟨_, rfl⟩
      have hw : IntKind.i64.wrap ((q : Int) - 1) = (q : Int) - 1 := wrapI (by omega) (by omega)
      have hkR1 : (if u < v then -1 else if v < u then 1 else cmpL a b q) = R := by
        rw [← hkR, ← hu, ← hv, ← atL_at hqa, ← atL_at hqb]; rfl
      refine WpC.skip ?_
      refine WpC.seq ?_
      refine WpC.block ?_
      refine WpC.seq ?_
      refine WpC.seq (WpC.drawn tabOk (by kernel_rfl) 0 (by simp) ?_)
      refine DrO.run (fz := []) 3 (by simp -implicitDefEqProofs [d10, hw0, d20, hqa, hqb, hu, hv, hw] <;> first | exact ⟨rfl, rfl, rfl, rfl⟩ | rfl) ?_
      refine DrO.run (fz := []) 3 (by simp -implicitDefEqProofs [d10, hw0, d20, hqa, hqb, hu, hv, hw] <;> first | exact ⟨rfl, rfl, rfl, rfl⟩ | rfl) ?_
      refine DrO.run (fz := []) 3 (by simp -implicitDefEqProofs [d10, hw0, d20, hqa, hqb, hu, hv, hw] <;> first | exact ⟨rfl, rfl, rfl, rfl⟩ | rfl) ?_
      refine DrO.nil ⟨by kernel_rfl, ?_⟩
      refine WpC.condD (u < v) (by simp -implicitDefEqProofs [d10, hw0, d20, hqa, hqb, hu, hv, hw]) (fun d31 => ?_) (fun d31 => ?_)
      · refine WpC.seq (WpC.ops tabOk (r := []) (by simp -implicitDefEqProofs [d10, hw0, d20, hqa, hqb, hu, hv, hw, d31] <;> rfl) rfl ?_)
        refine WpC.ret ?_
        try simp only [blockQ, seqQ]
        refine retD_i (by simp -implicitDefEqProofs [d10, hw0, d20, hqa, hqb, hu, hv, hw, d31] <;> rfl) (by simp -implicitDefEqProofs [d10, hw0, d20, hqa, hqb, hu, hv, hw, d31] <;> rfl) ?_
        rw [if_pos d31] at hkR1
        simp [← hkR1]
      · refine WpC.skip ?_
        refine WpC.seq (WpC.drawn tabOk (by kernel_rfl) 0 (by simp) ?_)
        refine DrO.run (fz := []) 3 (by simp -implicitDefEqProofs [d10, hw0, d20, hqa, hqb, hu, hv, hw, d31] <;> first | exact ⟨rfl, rfl, rfl, rfl⟩ | rfl) ?_
        refine DrO.run (fz := []) 3 (by simp -implicitDefEqProofs [d10, hw0, d20, hqa, hqb, hu, hv, hw, d31] <;> first | exact ⟨rfl, rfl, rfl, rfl⟩ | rfl) ?_
        refine DrO.run (fz := []) 3 (by simp -implicitDefEqProofs [d10, hw0, d20, hqa, hqb, hu, hv, hw, d31] <;> first | exact ⟨rfl, rfl, rfl, rfl⟩ | rfl) ?_
        refine DrO.nil ⟨by kernel_rfl, ?_⟩
        refine WpC.condD (v < u) (by simp -implicitDefEqProofs [d10, hw0, d20, hqa, hqb, hu, hv, hw, d31]) (fun d40 => ?_) (fun d40 => ?_)
        · refine WpC.seq (WpC.ops tabOk (r := []) (by simp -implicitDefEqProofs [d10, hw0, d20, hqa, hqb, hu, hv, hw, d31, d40] <;> rfl) rfl ?_)
          refine WpC.ret ?_
          try simp only [blockQ, seqQ]
          refine retD_i (by simp -implicitDefEqProofs [d10, hw0, d20, hqa, hqb, hu, hv, hw, d31, d40] <;> rfl) (by simp -implicitDefEqProofs [d10, hw0, d20, hqa, hqb, hu, hv, hw, d31, d40] <;> rfl) ?_
          rw [if_neg d31, if_pos d40] at hkR1
          simp [← hkR1]
        · have hkR2 : cmpL a b q = R := by rw [← hkR1, if_neg d31, if_neg d40]
          refine WpC.skip ?_
          refine WpC.ops tabOk (r := []) (by simp -implicitDefEqProofs [d10, hw0, d20, hqa, hqb, hu, hv, hw, d31, d40] <;> rfl) rfl ?_
          exact ⟨q, ⟨by omega, hkR2⟩, by omega, Gh.cut' [5, 0, 1] 0 (by simp -implicitDefEqProofs [d10, hw0, d20, hqa, hqb, hu, hv, hw, d31, d40]) (by simp) rfl (by simp) (by simp) (by simp)⟩
    · refine WpC.exit ?_
      refine WpC.seq (WpC.ops tabOk (r := []) (by simp -implicitDefEqProofs [d10, hw0, d20] <;> rfl) rfl ?_)
      refine WpC.ret ?_
      try simp only [blockQ, seqQ]
      refine retD_i (by simp -implicitDefEqProofs [d10, hw0, d20] <;> rfl) (by simp -implicitDefEqProofs [d10, hw0, d20] <;> rfl) ?_
      have hk0 : k = 0 := by omega
      subst hk0
      simp [← hkR, cmpL]
theorem cmpB_ok (m1 m2 : Bool) (x y : Nat) (hx : (dgs x).length ≤ 1000000) (hy : (dgs y).length ≤ 1000000) (X Y : Int) (eX : X = if m1 = true then -(x : Int) else x) (eY : Y = if m2 = true then -(y : Int) else y) (h1 : m1 = true → 0 < x) (h2 : m2 = true → 0 < y) :
    Gives Try.prog 43 [.d (encB m1 x), .d (encB m2 y)] (.d (dI (sgnI (X - Y)))) := by
  have s1 := sizeB_ok (dgs x) (dgs y) hx hy
  have s2 := sizeB_ok (dgs y) (dgs x) hy hx
  rw [size_dgs] at s1 s2
  cases m1 <;> cases m2 <;> simp only [if_true, if_false, Bool.false_eq_true] at eX eY h1 h2 <;> subst eX <;> subst eY
  · skip
    refine Gives.enter tabOk Try.func43 rfl (by show 2 ≤ 24; decide) ?_
    simp only [Try.f43]
    refine WpC.seq (WpC.ops tabOk (r := []) (by simp -implicitDefEqProofs <;> rfl) rfl ?_)
    refine WpC.seq ?_
    refine WpC.seq (WpC.ops tabOk (r := []) (by simp -implicitDefEqProofs <;> rfl) rfl ?_)
    refine WpC.condF (by simp -implicitDefEqProofs <;> rfl) ?_
    refine WpC.skip ?_
    refine WpC.seq ?_
    refine WpC.seq (WpC.ops tabOk (r := []) (by simp -implicitDefEqProofs <;> rfl) rfl ?_)
    refine WpC.condF (by simp -implicitDefEqProofs <;> rfl) ?_
    refine WpC.skip ?_
    refine WpC.seq ?_
    refine WpC.region ?_
    refine WpO.run tabOk 4 (by simp -implicitDefEqProofs <;> first | exact ⟨rfl, rfl⟩ | rfl) ?_
    refine WpO.data (by simp) rfl (by simp -implicitDefEqProofs <;> rfl) (by simp -implicitDefEqProofs <;> rfl) (by simp -implicitDefEqProofs <;> rfl) call_40 (by simp) (s1) (by rfl) (by simp -implicitDefEqProofs <;> rfl) ?_
    refine WpO.run tabOk 1 (by simp -implicitDefEqProofs <;> first | exact ⟨rfl, rfl⟩ | rfl) ?_
    refine WpO.nil ?_
    refine WpC.ret ?_
    try simp only [blockQ, seqQ]
    refine retD_i (by simp -implicitDefEqProofs <;> rfl) (by simp -implicitDefEqProofs <;> rfl) ?_
    simp -implicitDefEqProofs
  · have p2 := h2 trivial
    have e : sgnI ((x : Int) - -(y : Int)) = 1 := by unfold sgnI; rw [if_neg (by omega), if_pos (by omega)]
    rw [e]
    refine Gives.enter tabOk Try.func43 rfl (by show 2 ≤ 24; decide) ?_
    simp only [Try.f43]
    refine WpC.seq (WpC.ops tabOk (r := []) (by simp -implicitDefEqProofs <;> rfl) rfl ?_)
    refine WpC.seq ?_
    refine WpC.seq (WpC.ops tabOk (r := []) (by simp -implicitDefEqProofs <;> rfl) rfl ?_)
    refine WpC.condT (by simp -implicitDefEqProofs <;> rfl) ?_
    refine WpC.seq ?_
    refine WpC.seq (WpC.ops tabOk (r := []) (by simp -implicitDefEqProofs <;> rfl) rfl ?_)
    refine WpC.condF (by simp -implicitDefEqProofs <;> rfl) ?_
    refine WpC.skip ?_
    refine WpC.seq (WpC.ops tabOk (r := []) (by simp -implicitDefEqProofs <;> rfl) rfl ?_)
    refine WpC.ret ?_
    try simp only [blockQ, seqQ]
    refine retD_i (by simp -implicitDefEqProofs <;> rfl) (by simp -implicitDefEqProofs <;> rfl) ?_
    simp -implicitDefEqProofs
  · have p1 := h1 trivial
    have e : sgnI (-(x : Int) - (y : Int)) = -1 := by unfold sgnI; rw [if_pos (by omega)]
    rw [e]
    refine Gives.enter tabOk Try.func43 rfl (by show 2 ≤ 24; decide) ?_
    simp only [Try.f43]
    refine WpC.seq (WpC.ops tabOk (r := []) (by simp -implicitDefEqProofs <;> rfl) rfl ?_)
    refine WpC.seq ?_
    refine WpC.seq (WpC.ops tabOk (r := []) (by simp -implicitDefEqProofs <;> rfl) rfl ?_)
    refine WpC.condT (by simp -implicitDefEqProofs <;> rfl) ?_
    refine WpC.seq ?_
    refine WpC.seq (WpC.ops tabOk (r := []) (by simp -implicitDefEqProofs <;> rfl) rfl ?_)
    refine WpC.condT (by simp -implicitDefEqProofs <;> rfl) ?_
    refine WpC.seq (WpC.ops tabOk (r := []) (by simp -implicitDefEqProofs <;> rfl) rfl ?_)
    refine WpC.ret ?_
    try simp only [blockQ, seqQ]
    refine retD_i (by simp -implicitDefEqProofs <;> rfl) (by simp -implicitDefEqProofs <;> rfl) ?_
    simp -implicitDefEqProofs
  · have e : sgnI (-(x : Int) - -(y : Int)) = sgnI ((y : Int) - x) := by rw [show -(x : Int) - -(y : Int) = (y : Int) - x by omega]
    rw [e]
    refine Gives.enter tabOk Try.func43 rfl (by show 2 ≤ 24; decide) ?_
    simp only [Try.f43]
    refine WpC.seq (WpC.ops tabOk (r := []) (by simp -implicitDefEqProofs <;> rfl) rfl ?_)
    refine WpC.seq ?_
    refine WpC.seq (WpC.ops tabOk (r := []) (by simp -implicitDefEqProofs <;> rfl) rfl ?_)
    refine WpC.condF (by simp -implicitDefEqProofs <;> rfl) ?_
    refine WpC.skip ?_
    refine WpC.seq ?_
    refine WpC.seq (WpC.ops tabOk (r := []) (by simp -implicitDefEqProofs <;> rfl) rfl ?_)
    refine WpC.condT (by simp -implicitDefEqProofs <;> rfl) ?_
    refine WpC.seq ?_
    refine WpC.region ?_
    refine WpO.run tabOk 4 (by simp -implicitDefEqProofs <;> first | exact ⟨rfl, rfl⟩ | rfl) ?_
    refine WpO.data (by simp) rfl (by simp -implicitDefEqProofs <;> rfl) (by simp -implicitDefEqProofs <;> rfl) (by simp -implicitDefEqProofs <;> rfl) call_40 (by simp) (s2) (by rfl) (by simp -implicitDefEqProofs <;> rfl) ?_
    refine WpO.run tabOk 1 (by simp -implicitDefEqProofs <;> first | exact ⟨rfl, rfl⟩ | rfl) ?_
    refine WpO.nil ?_
    refine WpC.ret ?_
    try simp only [blockQ, seqQ]
    refine retD_i (by simp -implicitDefEqProofs <;> rfl) (by simp -implicitDefEqProofs <;> rfl) ?_
    simp -implicitDefEqProofs
end Go.Proofs.Ytfbpcjkhgiickaa.Pay
