/- The texts BgE, BgF, GaC, GaB, GaD, SpT, one behind the other. No statement of the seed is proved here. -/
import Derived.Test.YtaobnhenjldjeaaMgI
/- The document's split walked. No statement of the seed is proved here. -/
namespace Go.Proofs.Ytaobnhenjldjeaa.Pay
open Go Go.RowKit
set_option linter.unusedVariables false
set_option linter.unusedSimpArgs false
set_option linter.unusedSectionVars false

theorem refRight_ok (n : Int) : Gives Try.prog 75 [.d (dI n)] (.d (.bool (decide (¬ n = -9223372036854775808)))) := by
  refine Gives.enter tabOk Try.func75 rfl (by show 1 ≤ 5; decide) ?_
  simp only [Try.f75]
  refine WpC.seq (WpC.ops tabOk (r := []) (by simp -implicitDefEqProofs <;> rfl) rfl ?_)
  refine WpC.seq (WpC.ops tabOk (r := []) (by simp -implicitDefEqProofs <;> rfl) rfl ?_)
  refine WpC.ret ?_
  try simp only [blockQ, seqQ]
  refine retD_i (by simp -implicitDefEqProofs <;> rfl) (by simp -implicitDefEqProofs <;> rfl) ?_
  simp -implicitDefEqProofs
theorem refAdd_ok (a b : Int) (ha : in64 a) (hb : in64 b) : Gives Try.prog 51 [.d (dI a), .d (dI b)] (.tup [.d (dI (if addB a b = true then a + b else 0)), .d (.bool (addB a b))]) := by
  unfold in64 at ha hb
  have r1 := refRight_ok a
  have r2 := refRight_ok b
  have hbad : (a = -9223372036854775808 ∨ b = -9223372036854775808) → addB a b = false := fun h => by
    unfold addB
    rw [decide_eq_false_iff_not]; omega
  have w1 : 0 < b → IntKind.i64.wrap (9223372036854775807 - b) = 9223372036854775807 - b := fun h => wrapI (by omega) (by omega)
  have w2 : b < 0 → ¬ b = -9223372036854775808 → IntKind.i64.wrap (-9223372036854775807 - b) = -9223372036854775807 - b := fun h h2 => wrapI (by omega) (by omega)
  refine Gives.enter tabOk Try.func51 rfl (by show 2 ≤ 35; decide) ?_
  simp only [Try.f51]
  refine WpC.seq (WpC.ops tabOk (r := []) (by simp -implicitDefEqProofs <;> rfl) rfl ?_)
  refine WpC.seq ?_
  refine WpC.seq ?_
  refine WpC.val 13 (.d (.bool (decide (a = -9223372036854775808 ∨ b = -9223372036854775808)))) ?_ ?_
  · refine WpC.region ?_
    refine WpO.run tabOk 1 (by simp -implicitDefEqProofs <;> first | exact ⟨rfl, rfl⟩ | rfl) ?_
    refine WpO.data (by simp) rfl (by simp -implicitDefEqProofs <;> rfl) (by simp -implicitDefEqProofs <;> rfl) (by simp -implicitDefEqProofs <;> rfl) call_75 (by simp) (r1) (by rfl) (by simp -implicitDefEqProofs <;> rfl) ?_
    refine WpO.run tabOk 2 (by simp -implicitDefEqProofs <;> first | exact ⟨rfl, rfl⟩ | rfl) ?_
    refine WpO.splitB 9 (by simp -implicitDefEqProofs <;> rfl) (by rfl) (fun g9 => ?_) (fun g9 => ?_)
    · have g9' := g9; first | simp only [dT, dF] at g9' | try simp at g9'
      refine WpO.run tabOk 4 (by simp -implicitDefEqProofs [g9] <;> first | exact ⟨rfl, rfl⟩ | rfl) ?_
      refine WpO.nil ?_
      refine ⟨rfl, Gh.only 13 9 ?_ (by first | rfl | simp -implicitDefEqProofs [g9]) (by rfl)⟩
      simp -implicitDefEqProofs [g9, g9']
    · have g9' := g9; first | simp only [dT, dF] at g9' | try simp at g9'
      refine WpO.run tabOk 1 (by simp -implicitDefEqProofs [g9] <;> first | exact ⟨rfl, rfl⟩ | rfl) ?_
      refine WpO.data (by simp) rfl (by simp -implicitDefEqProofs [g9] <;> rfl) (by simp -implicitDefEqProofs [g9] <;> rfl) (by simp -implicitDefEqProofs [g9] <;> rfl) call_75 (by simp) (r2) (by rfl) (by simp -implicitDefEqProofs [g9] <;> rfl) ?_
      refine WpO.run tabOk 2 (by simp -implicitDefEqProofs [g9] <;> first | exact ⟨rfl, rfl⟩ | rfl) ?_
      refine WpO.nil ?_
      refine ⟨rfl, Gh.only 13 9 ?_ (by first | rfl | simp -implicitDefEqProofs [g9]) (by rfl)⟩
      simp -implicitDefEqProofs [g9, g9']
  refine WpC.condD (a = -9223372036854775808 ∨ b = -9223372036854775808) (by simp -implicitDefEqProofs) (fun d13 => ?_) (fun d13 => ?_)
  · refine WpC.seq (WpC.ops tabOk (r := []) (by simp -implicitDefEqProofs [d13] <;> rfl) rfl ?_)
    refine WpC.ret ?_
    try simp only [blockQ, seqQ]
    refine retD_i (by simp -implicitDefEqProofs [d13] <;> rfl) (by simp -implicitDefEqProofs [d13] <;> rfl) ?_
    simp [hbad d13]
  · refine WpC.skip ?_
    refine WpC.seq ?_
    refine WpC.seq ?_
    refine WpC.val 31 (.d (.bool (decide ((0 < b ∧ 9223372036854775807 - b < a) ∨ (b < 0 ∧ a < -9223372036854775807 - b))))) ?_ ?_
    · refine WpC.region ?_
      refine WpO.run tabOk 3 (by simp -implicitDefEqProofs [d13] <;> first | exact ⟨rfl, rfl⟩ | rfl) ?_
      refine WpO.splitB 16 (by simp -implicitDefEqProofs [d13] <;> rfl) (by rfl) (fun g16 => ?_) (fun g16 => ?_)
      · have g16' := g16; first | simp only [dT, dF] at g16' | try simp at g16'
        have w1 := w1 (by simpa using g16)
        refine WpO.run tabOk 6 (by simp -implicitDefEqProofs [d13, g16, w1] <;> first | exact ⟨rfl, rfl⟩ | rfl) ?_
        refine WpO.splitB 22 (by simp -implicitDefEqProofs [d13, g16, w1] <;> rfl) (by rfl) (fun g22 => ?_) (fun g22 => ?_)
        · have g22' := g22; first | simp only [dT, dF] at g22' | try simp at g22'
          refine WpO.run tabOk 9 (by simp -implicitDefEqProofs [d13, g16, w1, g22] <;> first | exact ⟨rfl, rfl⟩ | rfl) ?_
          refine WpO.nil ?_
          refine ⟨rfl, Gh.only 31 20 ?_ (by first | rfl | simp -implicitDefEqProofs [d13, g16, w1, g22]) (by rfl)⟩
          all_goals (clear r1 r2 hbad; first | (simp_all; done) | (simp_all; omega) | omega)
        · have g22' := g22; first | simp only [dT, dF] at g22' | try simp at g22'
          refine WpO.run tabOk 3 (by simp -implicitDefEqProofs [d13, g16, w1, g22] <;> first | exact ⟨rfl, rfl⟩ | rfl) ?_
          refine WpO.splitB 25 (by simp -implicitDefEqProofs [d13, g16, w1, g22] <;> rfl) (by rfl) (fun g25 => ?_) (fun g25 => ?_)
          · have g25' := g25; first | simp only [dT, dF] at g25' | try simp at g25'
            have w2 := w2 (by simpa using g25) (by omega)
            refine WpO.run tabOk 6 (by simp -implicitDefEqProofs [d13, g16, w1, g22, g25, w2] <;> first | exact ⟨rfl, rfl⟩ | rfl) ?_
            refine WpO.nil ?_
            refine ⟨rfl, Gh.only 31 21 ?_ (by first | rfl | simp -implicitDefEqProofs [d13, g16, w1, g22, g25, w2]) (by rfl)⟩
            all_goals (clear r1 r2 hbad; first | (simp_all; done) | (simp_all; omega) | omega)
          · have g25' := g25; first | simp only [dT, dF] at g25' | try simp at g25'
            refine WpO.run tabOk 6 (by simp -implicitDefEqProofs [d13, g16, w1, g22, g25] <;> first | exact ⟨rfl, rfl⟩ | rfl) ?_
            refine WpO.nil ?_
            refine ⟨rfl, Gh.only 31 21 ?_ (by first | rfl | simp -implicitDefEqProofs [d13, g16, w1, g22, g25]) (by rfl)⟩
            all_goals (clear r1 r2 hbad; first | (simp_all; done) | (simp_all; omega) | omega)
      · have g16' := g16; first | simp only [dT, dF] at g16' | try simp at g16'
        refine WpO.run tabOk 9 (by simp -implicitDefEqProofs [d13, g16] <;> first | exact ⟨rfl, rfl⟩ | rfl) ?_
        refine WpO.splitB 25 (by simp -implicitDefEqProofs [d13, g16] <;> rfl) (by rfl) (fun g25 => ?_) (fun g25 => ?_)
        · have g25' := g25; first | simp only [dT, dF] at g25' | try simp at g25'
          have w2 := w2 (by simpa using g25) (by omega)
          refine WpO.run tabOk 6 (by simp -implicitDefEqProofs [d13, g16, g25, w2] <;> first | exact ⟨rfl, rfl⟩ | rfl) ?_
          refine WpO.nil ?_
          refine ⟨rfl, Gh.only 31 20 ?_ (by first | rfl | simp -implicitDefEqProofs [d13, g16, g25, w2]) (by rfl)⟩
          all_goals (clear r1 r2 hbad; first | (simp_all; done) | (simp_all; omega) | omega)
        · have g25' := g25; first | simp only [dT, dF] at g25' | try simp at g25'
          refine WpO.run tabOk 6 (by simp -implicitDefEqProofs [d13, g16, g25] <;> first | exact ⟨rfl, rfl⟩ | rfl) ?_
          refine WpO.nil ?_
          refine ⟨rfl, Gh.only 31 20 ?_ (by first | rfl | simp -implicitDefEqProofs [d13, g16, g25]) (by rfl)⟩
          all_goals (clear r1 r2 hbad; first | (simp_all; done) | (simp_all; omega) | omega)
    refine WpC.condD ((0 < b ∧ 9223372036854775807 - b < a) ∨ (b < 0 ∧ a < -9223372036854775807 - b)) (by simp -implicitDefEqProofs [d13]) (fun d31 => ?_) (fun d31 => ?_)
    · refine WpC.seq (WpC.ops tabOk (r := []) (by simp -implicitDefEqProofs [d13, d31] <;> rfl) rfl ?_)
      refine WpC.ret ?_
      try simp only [blockQ, seqQ]
      refine retD_i (by simp -implicitDefEqProofs [d13, d31] <;> rfl) (by simp -implicitDefEqProofs [d13, d31] <;> rfl) ?_
      have hb2 : addB a b = false := by unfold addB; rw [decide_eq_false_iff_not]; omega
      simp [hb2]
    · refine WpC.skip ?_
      refine WpC.seq (WpC.ops tabOk (r := []) (by simp -implicitDefEqProofs [d13, d31] <;> rfl) rfl ?_)
      refine WpC.ret ?_
      try simp only [blockQ, seqQ]
      refine retD_i (by simp -implicitDefEqProofs [d13, d31] <;> rfl) (by simp -implicitDefEqProofs [d13, d31] <;> rfl) ?_
      have hb2 : addB a b = true := by unfold addB; rw [decide_eq_true_iff]; omega
      have hw : IntKind.i64.wrap (a + b) = a + b := wrapI (by omega) (by omega)
      simp [hb2, hw]
def rstep (p : Int × Bool) (x : Int) : Int × Bool := if p.2 = true then (if addB p.1 x = true then p.1 + x else 0, addB p.1 x) else p
def rsum (l : List Int) : Int × Bool := l.foldl rstep (0, true)
theorem rsum_stop : ∀ (l : List Int) (x : Int), l.foldl rstep (x, false) = (x, false)
  | [], _ => rfl
  | y :: l, x => by rw [List.foldl_cons]; exact rsum_stop l x
theorem rsum_nn : ∀ (l : List Int) (s : Int), 0 ≤ s → s ≤ 9223372036854775807 → (∀ x ∈ l, 0 ≤ x ∧ x ≤ 9223372036854775807) → l.foldl rstep (s, true) = if s + l.sum ≤ 9223372036854775807 then (s + l.sum, true) else (0, false)
  | [], s, h1, h2, _ => by simp [h2]
  | x :: l, s, h1, h2, h => by
    have hx := h x (by simp)
    have hl := sum_nonneg (l := l) fun y hy => (h y (by simp [hy])).1
    rw [List.foldl_cons, List.sum_cons]
    have e : rstep (s, true) x = (if addB s x = true then s + x else 0, addB s x) := rfl
    rw [e]
    by_cases hb : s + x ≤ 9223372036854775807
    · have : addB s x = true := by unfold addB; rw [decide_eq_true_iff]; omega
      rw [this, if_pos rfl, rsum_nn l (s + x) (by omega) hb fun y hy => h y (by simp [hy]), Int.add_assoc]
    · have : addB s x = false := by unfold addB; rw [decide_eq_false_iff_not]; omega
      rw [this, if_neg (by simp), rsum_stop, if_neg (by omega)]
theorem rsum_in (l : List Int) (h : ∀ x ∈ l, in64 x) : in64 (rsum l).1 := by
  have key : ∀ (l : List Int) (p : Int × Bool), in64 p.1 → in64 (l.foldl rstep p).1 := fun l => by
    induction l with
    | nil => intro p hp; exact hp
    | cons x l ih =>
      intro p hp
      rw [List.foldl_cons]
      refine ih _ ?_
      unfold rstep
      split
      · show in64 (if addB p.1 x = true then p.1 + x else 0)
        by_cases hb : addB p.1 x = true
        · rw [if_pos hb]
          unfold addB at hb
          rw [decide_eq_true_iff] at hb
          unfold in64; omega
        · rw [if_neg hb]; unfold in64; omega
      · exact hp
  exact key l _ (by unfold in64; decide)
theorem refSum_ok (l : List Int) (h : ∀ x ∈ l, in64 x) (hl : l.length ≤ 1000000) : Gives Try.prog 36 [.d (.list 1 (l.map dI))] (.tup [.d (dI (rsum l).1), .d (.bool (rsum l).2)]) := by
  have hz : rsum [] = (0, true) := rfl
  refine Gives.enter tabOk Try.func36 rfl (by show 1 ≤ 27; decide) ?_
  simp only [Try.f36]
  refine WpC.seq (WpC.ops tabOk (r := []) (by simp -implicitDefEqProofs [hz] <;> rfl) rfl ?_)
  refine WpC.seq (WpC.ops tabOk (r := []) (by simp -implicitDefEqProofs [hz] <;> rfl) rfl ?_)
  refine WpC.seq ?_
  refine WpC.seq (WpC.ops tabOk (r := []) (by simp -implicitDefEqProofs [hz] <;> rfl) rfl ?_)
  refine WpC.block ?_
  refine WpC.loopM [0] [4, 5, 6] (fun k => l.length - k) (0 : Nat) (fun k => [(4, .d (dI (rsum (l.take k)).1)), (5, .d (.bool (rsum (l.take k)).2)), (6, .d (dI (k : Nat)))]) (fun k => []) (fun k => k ≤ l.length) (by simp -implicitDefEqProofs [hz] <;> rfl) (Gh.cut' [4, 5, 6, 0] 0 (by simp -implicitDefEqProofs [hz]) (by simp -implicitDefEqProofs [hz]) rfl (by simp) (by simp) (by simp)) (Nat.zero_le _) ?_
  rintro k hi
  simp only [List.cons_append, List.nil_append]
  have hkl : k ≤ l.length := hi
  have h64 := rsum_in (l.take k) fun x hx => h x (List.mem_of_mem_take hx)
  obtain ⟨p, hp⟩ : ∃ p, rsum (l.take k) = p := ⟨_, rfl⟩
  rw [hp] at h64 ⊢
  obtain ⟨s, ok⟩ := p
  simp only at h64 ⊢
  refine WpC.seq ?_
  refine WpC.seq ?_
  refine WpC.val 13 (.d (.bool (decide (k < l.length ∧ ok = true)))) ?_ ?_
  · refine WpC.region ?_
    refine WpO.run tabOk 5 (by simp -implicitDefEqProofs [hz] <;> first | exact ⟨rfl, rfl⟩ | rfl) ?_
    refine WpO.splitB 11 (by simp -implicitDefEqProofs [hz] <;> rfl) (by rfl) (fun g11 => ?_) (fun g11 => ?_)
    · have g11' := g11; first | simp only [dT, dF] at g11' | try simp at g11'
      refine WpO.run tabOk 2 (by simp -implicitDefEqProofs [hz, g11] <;> first | exact ⟨rfl, rfl⟩ | rfl) ?_
      refine WpO.nil ?_
      refine ⟨rfl, Gh.only 13 8 ?_ (by first | rfl | simp -implicitDefEqProofs [hz, g11]) (by rfl)⟩
      simp -implicitDefEqProofs [hz, g11, g11']
    · have g11' := g11; first | simp only [dT, dF] at g11' | try simp at g11'
      refine WpO.run tabOk 2 (by simp -implicitDefEqProofs [hz, g11] <;> first | exact ⟨rfl, rfl⟩ | rfl) ?_
      refine WpO.nil ?_
      refine ⟨rfl, Gh.only 13 8 ?_ (by first | rfl | simp -implicitDefEqProofs [hz, g11]) (by rfl)⟩
      simp -implicitDefEqProofs [hz, g11, g11']
  refine WpC.condD (k < l.length ∧ ok = true) (by simp -implicitDefEqProofs [hz]) (fun d13 => ?_) (fun d13 => ?_)
  · have hlt : k < l.length := d13.1
    have hok : ok = true := d13.2
    subst hok
    obtain ⟨x, hx⟩ : ∃ x, l[k] = x := ⟨_, rfl⟩
    have hst : rsum (l.take (k + 1)) = (if addB s x = true then s + x else 0, addB s x) := by
      unfold rsum
      rw [foldl_take _ _ hlt, show (l.take k).foldl rstep (0, true) = (s, true) from hp, hx]; rfl
    have ha := refAdd_ok s x h64 (h x (hx ▸ List.getElem_mem hlt))
    have hkw : IntKind.i64.wrap ((k : Int) + 1) = k + 1 := wrapI (by omega) (by omega)
    refine WpC.skip ?_
    refine WpC.seq ?_
    refine WpC.block ?_
    refine WpC.region ?_
    refine WpO.run tabOk 5 (by simp -implicitDefEqProofs [hz, d13, hlt, hx, hkw] <;> first | exact ⟨rfl, rfl⟩ | rfl) ?_
    refine WpO.data (by simp) rfl (by simp -implicitDefEqProofs [hz, d13, hlt, hx, hkw] <;> rfl) (by simp -implicitDefEqProofs [hz, d13, hlt, hx, hkw] <;> rfl) (by simp -implicitDefEqProofs [hz, d13, hlt, hx, hkw] <;> rfl) call_51 (by simp) (ha) (by rfl) (by simp -implicitDefEqProofs [hz, d13, hlt, hx, hkw] <;> rfl) ?_
    refine WpO.run tabOk 5 (by simp -implicitDefEqProofs [hz, d13, hlt, hx, hkw] <;> first | exact ⟨rfl, rfl⟩ | rfl) ?_
    refine WpO.nil ?_
    refine WpC.ops tabOk (r := []) (by simp -implicitDefEqProofs [hz, d13, hlt, hx, hkw] <;> rfl) rfl ?_
    exact ⟨k + 1, hlt, by omega, Gh.cut' [4, 5, 6, 0] 0 (by simp -implicitDefEqProofs [hz, d13, hlt, hx, hkw, hst]) (by simp) rfl (by simp) (by simp) (by simp)⟩
  · refine WpC.exit ?_
    refine WpC.seq (WpC.ops tabOk (r := []) (by simp -implicitDefEqProofs [hz, d13] <;> rfl) rfl ?_)
    refine WpC.ret ?_
    try simp only [blockQ, seqQ]
    refine retD_i (by simp -implicitDefEqProofs [hz, d13] <;> rfl) (by simp -implicitDefEqProofs [hz, d13] <;> rfl) ?_
    have hf : rsum l = (s, ok) := by
      by_cases hk : k < l.length
      · have hok : ok = false := by cases ok with | false => rfl | true => exact absurd ⟨hk, rfl⟩ d13
        subst hok
        unfold rsum
        rw [← List.take_append_drop k l, List.foldl_append, show (l.take k).foldl rstep (0, true) = (s, false) from hp, rsum_stop]
      · rw [← hp, List.take_of_length_le (by omega)]
    simp [hf]
theorem mul_pos2 {a b : Int} {A B : Nat} (hA : a.natAbs = A) (hB : b.natAbs = B) : (if signB (decide (a < 0)) (decide (b < 0)) (A * B) = true then -((A * B : Nat) : Int) else ((A * B : Nat) : Int)) = a * b ∧ (signB (decide (a < 0)) (decide (b < 0)) (A * B) = true → 0 < A * B) := by
  subst hA; subst hB
  refine ⟨?_, fun h => by unfold signB at h; rw [Bool.and_eq_true] at h; exact of_decide_eq_true h.2⟩
  have hab : ((a.natAbs * b.natAbs : Nat) : Int) = (a * b).natAbs := by rw [Int.natAbs_mul]
  by_cases h0 : a.natAbs * b.natAbs = 0
  · have : a * b = 0 := by rw [← Int.natAbs_eq_zero, Int.natAbs_mul]; exact h0
    rw [h0, this]; simp
  · have hpos : 0 < a.natAbs * b.natAbs := by omega
    by_cases h1 : a < 0 <;> by_cases h2 : b < 0
    · have : 0 ≤ a * b := by have := Int.mul_nonneg (show 0 ≤ -a by omega) (show 0 ≤ -b by omega); rwa [Int.neg_mul_neg] at this
      simp only [signB, h1, h2]
      rw [hab]; simp; omega
    · have : a * b ≤ 0 := by have := Int.mul_nonneg (show 0 ≤ -a by omega) (show 0 ≤ b by omega); rw [Int.neg_mul] at this; omega
      simp only [signB, h1, h2, hpos]
      rw [hab]; simp; omega
    · have : a * b ≤ 0 := by have := Int.mul_nonneg (show 0 ≤ a by omega) (show 0 ≤ -b by omega); rw [Int.mul_neg] at this; omega
      simp only [signB, h1, h2, hpos]
      rw [hab]; simp; omega
    · have : 0 ≤ a * b := Int.mul_nonneg (show 0 ≤ a by omega) (show 0 ≤ b by omega)
      simp only [signB, h1, h2]
      rw [hab]; simp; omega
section
variable (T S : Int) (wf pf : Nat → Int) (n : Nat) (hT : inN T) (hS : inN S) (hw : ∀ i, i < n → inN (wf i)) (hp : ∀ i, i < n → inN (pf i)) (hn : n ≤ 60)
include hT hS hw hp hn
set_option maxHeartbeats 4000000 in
theorem above_ok (i j : Nat) (hi : i < n) (hj : j < n) : Gives Try.prog 38 [.d (dI T), .d (dI S), .d (.list 1 (rowF wf n)), .d (.list 1 (rowF pf n)), .d (dI i), .d (dI j)] (.d (.bool (lessB T S wf pf j i))) := by
  have h1 := hw i hi
  have h2 := hw j hj
  have h3 := hp i hi
  have h4 := hp j hj
  have hless : lessB T S wf pf j i = decide ((pf i - pf j) * S < T * (wf i - wf j)) := by
    unfold lessB
    congr 1
    rw [show wf j - wf i = -(wf i - wf j) by omega, show pf j - pf i = -(pf i - pf j) by omega, Int.mul_neg, Int.neg_mul]
    exact propext ⟨fun h => by omega, fun h => by omega⟩
  rw [hless]
  obtain ⟨x, hx⟩ : ∃ x, wf i - wf j = x := ⟨_, rfl⟩
  obtain ⟨y, hy⟩ : ∃ x, pf i - pf j = x := ⟨_, rfl⟩
  unfold inN at h1 h2 h3 h4 hT hS
  have w1 : IntKind.i64.wrap (wf i - wf j) = x := by rw [hx]; exact wrapI (by omega) (by omega)
  have w2 : IntKind.i64.wrap (pf i - pf j) = y := by rw [hy]; exact wrapI (by omega) (by omega)
  have oT := of_ok T (by unfold in64; omega)
  have oS := of_ok S (by unfold in64; omega)
  have ox := of_ok x (by unfold in64; omega)
  have oy := of_ok y (by unfold in64; omega)
  rw [hx, hy]
  have l19 : ∀ z : Int, z.natAbs ≤ 9223372036854775808 → (dgs z.natAbs).length ≤ 1000 := fun z hz => Nat.le_trans (dgs_19 hz) (by decide)
  have mA := mulB_okB (decide (T < 0)) (decide (x < 0)) T.natAbs x.natAbs (l19 _ (by omega)) (l19 _ (by omega))
  have mB := mulB_okB (decide (y < 0)) (decide (S < 0)) y.natAbs S.natAbs (l19 _ (by omega)) (l19 _ (by omega))
  have sA := mul_pos2 (a := T) (b := x) rfl rfl
  have sB := mul_pos2 (a := y) (b := S) rfl rfl
  have lA : T.natAbs * x.natAbs ≤ 9223372036854775808 * 9223372036854775808 := Nat.mul_le_mul (by omega) (by omega)
  have lB : y.natAbs * S.natAbs ≤ 9223372036854775808 * 9223372036854775808 := Nat.mul_le_mul (by omega) (by omega)
  have l39 : ∀ z : Nat, z ≤ 9223372036854775808 * 9223372036854775808 → (dgs z).length ≤ 39 := fun z hz => dgs_len_le (Nat.lt_of_le_of_lt hz (by decide))
  have lA2 := l39 _ lA
  have lB2 := l39 _ lB
  obtain ⟨mA', hmA⟩ : ∃ m, signB (decide (T < 0)) (decide (x < 0)) (T.natAbs * x.natAbs) = m := ⟨_, rfl⟩
  obtain ⟨mB', hmB⟩ : ∃ m, signB (decide (y < 0)) (decide (S < 0)) (y.natAbs * S.natAbs) = m := ⟨_, rfl⟩
  rw [hmA] at mA sA
  rw [hmB] at mB sB
  obtain ⟨A, hA⟩ : ∃ m, T.natAbs * x.natAbs = m := ⟨_, rfl⟩
  obtain ⟨B, hB⟩ : ∃ m, y.natAbs * S.natAbs = m := ⟨_, rfl⟩
  rw [hA] at mA sA lA2
  rw [hB] at mB sB lB2
  have hc := cmpB_ok mA' mB' A B (by omega) (by omega) _ _ sA.1.symm sB.1.symm sA.2 sB.2
  obtain ⟨P, hP⟩ : ∃ P, T * x = P := ⟨_, rfl⟩
  obtain ⟨Q, hQ⟩ : ∃ P, y * S = P := ⟨_, rfl⟩
  rw [hP, hQ] at hc
  rw [hP, hQ]
  have hsg : (0 < sgnI (P - Q)) = (Q < P) := propext (by
    unfold sgnI
    by_cases h1 : P - Q < 0
    · rw [if_pos h1]; omega
    · rw [if_neg h1]
      by_cases h2 : 0 < P - Q
      · rw [if_pos h2]; omega
      · rw [if_neg h2]; omega)
  unfold encB at oT oS ox oy mA mB hc
  refine Gives.enter tabOk Try.func38 rfl (by show 6 ≤ 45; decide) ?_
  simp only [Try.f38]
  refine WpC.seq (WpC.ops tabOk (r := []) (by simp -implicitDefEqProofs [hi, hj, w1, w2, hsg] <;> rfl) rfl ?_)
  refine WpC.seq ?_
  refine WpC.drawn tabOk (by kernel_rfl) 1 (by simp) ?_
  refine DrO.run (fz := []) 1 (by simp -implicitDefEqProofs [hi, hj, w1, w2, hsg] <;> first | exact ⟨rfl, rfl, rfl, rfl⟩ | rfl) ?_
  refine DrO.data (by simp) rfl (by simp -implicitDefEqProofs [hi, hj, w1, w2, hsg] <;> rfl) (by simp -implicitDefEqProofs [hi, hj, w1, w2, hsg] <;> rfl) (by simp -implicitDefEqProofs [hi, hj, w1, w2, hsg] <;> rfl) call_53 (oT) (by rfl) (by simp -implicitDefEqProofs [hi, hj, w1, w2, hsg] <;> rfl) ?_
  refine DrO.run (fz := []) 3 (by simp -implicitDefEqProofs [hi, hj, w1, w2, hsg] <;> first | exact ⟨rfl, rfl, rfl, rfl⟩ | rfl) ?_
  refine DrO.run (fz := []) 3 (by simp -implicitDefEqProofs [hi, hj, w1, w2, hsg] <;> first | exact ⟨rfl, rfl, rfl, rfl⟩ | rfl) ?_
  refine DrO.run (fz := []) 3 (by simp -implicitDefEqProofs [hi, hj, w1, w2, hsg] <;> first | exact ⟨rfl, rfl, rfl, rfl⟩ | rfl) ?_
  refine DrO.data (by simp) rfl (by simp -implicitDefEqProofs [hi, hj, w1, w2, hsg] <;> rfl) (by simp -implicitDefEqProofs [hi, hj, w1, w2, hsg] <;> rfl) (by simp -implicitDefEqProofs [hi, hj, w1, w2, hsg] <;> rfl) call_53 (ox) (by rfl) (by simp -implicitDefEqProofs [hi, hj, w1, w2, hsg] <;> rfl) ?_
  refine DrO.data (by simp) rfl (by simp -implicitDefEqProofs [hi, hj, w1, w2, hsg] <;> rfl) (by simp -implicitDefEqProofs [hi, hj, w1, w2, hsg] <;> rfl) (by simp -implicitDefEqProofs [hi, hj, w1, w2, hsg] <;> rfl) call_52 (mA) (by rfl) (by simp -implicitDefEqProofs [hi, hj, w1, w2, hsg] <;> rfl) ?_
  refine DrO.run (fz := []) 2 (by simp -implicitDefEqProofs [hi, hj, w1, w2, hsg] <;> first | exact ⟨rfl, rfl, rfl, rfl⟩ | rfl) ?_
  refine DrO.nil ⟨by kernel_rfl, ?_⟩
  refine WpC.seq ?_
  refine WpC.drawn tabOk (by kernel_rfl) 1 (by simp) ?_
  refine DrO.run (fz := []) 3 (by simp -implicitDefEqProofs [hi, hj, w1, w2, hsg] <;> first | exact ⟨rfl, rfl, rfl, rfl⟩ | rfl) ?_
  refine DrO.run (fz := []) 3 (by simp -implicitDefEqProofs [hi, hj, w1, w2, hsg] <;> first | exact ⟨rfl, rfl, rfl, rfl⟩ | rfl) ?_
  refine DrO.run (fz := []) 3 (by simp -implicitDefEqProofs [hi, hj, w1, w2, hsg] <;> first | exact ⟨rfl, rfl, rfl, rfl⟩ | rfl) ?_
  refine DrO.data (by simp) rfl (by simp -implicitDefEqProofs [hi, hj, w1, w2, hsg] <;> rfl) (by simp -implicitDefEqProofs [hi, hj, w1, w2, hsg] <;> rfl) (by simp -implicitDefEqProofs [hi, hj, w1, w2, hsg] <;> rfl) call_53 (oy) (by rfl) (by simp -implicitDefEqProofs [hi, hj, w1, w2, hsg] <;> rfl) ?_
  refine DrO.run (fz := []) 1 (by simp -implicitDefEqProofs [hi, hj, w1, w2, hsg] <;> first | exact ⟨rfl, rfl, rfl, rfl⟩ | rfl) ?_
  refine DrO.data (by simp) rfl (by simp -implicitDefEqProofs [hi, hj, w1, w2, hsg] <;> rfl) (by simp -implicitDefEqProofs [hi, hj, w1, w2, hsg] <;> rfl) (by simp -implicitDefEqProofs [hi, hj, w1, w2, hsg] <;> rfl) call_53 (oS) (by rfl) (by simp -implicitDefEqProofs [hi, hj, w1, w2, hsg] <;> rfl) ?_
  refine DrO.data (by simp) rfl (by simp -implicitDefEqProofs [hi, hj, w1, w2, hsg] <;> rfl) (by simp -implicitDefEqProofs [hi, hj, w1, w2, hsg] <;> rfl) (by simp -implicitDefEqProofs [hi, hj, w1, w2, hsg] <;> rfl) call_52 (mB) (by rfl) (by simp -implicitDefEqProofs [hi, hj, w1, w2, hsg] <;> rfl) ?_
  refine DrO.run (fz := []) 2 (by simp -implicitDefEqProofs [hi, hj, w1, w2, hsg] <;> first | exact ⟨rfl, rfl, rfl, rfl⟩ | rfl) ?_
  refine DrO.nil ⟨by kernel_rfl, ?_⟩
  refine WpC.seq ?_
  refine WpC.region ?_
  refine WpO.run tabOk 2 (by simp -implicitDefEqProofs [hi, hj, w1, w2, hsg] <;> first | exact ⟨rfl, rfl⟩ | rfl) ?_
  refine WpO.data (by simp) rfl (by simp -implicitDefEqProofs [hi, hj, w1, w2, hsg] <;> rfl) (by simp -implicitDefEqProofs [hi, hj, w1, w2, hsg] <;> rfl) (by simp -implicitDefEqProofs [hi, hj, w1, w2, hsg] <;> rfl) call_58 (by simp) (hc) (by rfl) (by simp -implicitDefEqProofs [hi, hj, w1, w2, hsg] <;> rfl) ?_
  refine WpO.run tabOk 2 (by simp -implicitDefEqProofs [hi, hj, w1, w2, hsg] <;> first | exact ⟨rfl, rfl⟩ | rfl) ?_
  refine WpO.nil ?_
  refine WpC.ret ?_
  try simp only [blockQ, seqQ]
  refine retD_i (by simp -implicitDefEqProofs [hi, hj, w1, w2, hsg] <;> rfl) (by simp -implicitDefEqProofs [hi, hj, w1, w2, hsg] <;> rfl) ?_
  simp -implicitDefEqProofs [hi, hj, w1, w2, hsg]
end
end Go.Proofs.Ytaobnhenjldjeaa.Pay
/- The document's split walked. No statement of the seed is proved here. -/
namespace Go.Proofs.Ytaobnhenjldjeaa.Pay
open Go Go.RowKit
set_option linter.unusedVariables false
set_option linter.unusedSimpArgs false
set_option linter.unusedSectionVars false

/-- Down: nothing is added. -/
theorem md_down {a b c : Int} (ha : 0 ≤ a ∧ a ≤ 9223372036854775807) (hb : 0 ≤ b) (hbc : b ≤ c) (hc : 0 < c) : mdOk a b c 0 = true ∧ mdR a b c 0 = ((a.toNat * b.toNat / c.toNat : Nat) : Int) := by
  have e1 : a.natAbs = a.toNat := by omega
  have e2 : b.natAbs = b.toNat := by omega
  have e3 : c.natAbs = c.toNat := by omega
  have hm : ∀ q r C, moreB 0 q r C = false := fun q r C => by unfold moreB; rw [decide_eq_false_iff_not]; omega
  have hq : mdQ a b c 0 = a.toNat * b.toNat / c.toNat := by
    unfold mdQ mdN
    rw [hm, e1, e2, e3]; simp
  have hle : a.toNat * b.toNat / c.toNat ≤ a.toNat := by
    have h1 : a.toNat * b.toNat ≤ a.toNat * c.toNat := Nat.mul_le_mul_left _ (by omega)
    have h2 := Nat.div_le_div_right (c := c.toNat) h1
    rwa [Nat.mul_div_cancel _ (by omega)] at h2
  have hok : mdOk a b c 0 = true := by unfold mdOk; rw [hq, decide_eq_true_iff]; omega
  have hmi : mdMinus a b c = false := by
    unfold mdMinus signB
    rw [decide_eq_false (by omega : ¬ a < 0), decide_eq_false (by omega : ¬ b < 0), decide_eq_false (by omega : ¬ c < 0)]; rfl
  refine ⟨hok, ?_⟩
  unfold mdR
  rw [hok, hmi, hq]; simp
theorem aheadK_step (c : Int → Int → Int) (i : Int) (k : Nat) : (List.range (k + 1)).countP (fun (j : Nat) => decide (c (j : Int) i < 0)) = (List.range k).countP (fun (j : Nat) => decide (c (j : Int) i < 0)) + if c (k : Int) i < 0 then 1 else 0 := by
  rw [List.range_succ, List.countP_append]
  by_cases h : c (k : Int) i < 0 <;> simp [h]
def ahK (c : Int → Int → Int) (i : Int) (k : Nat) : Nat := (List.range k).countP (fun (j : Nat) => decide (c (j : Int) i < 0))
theorem cS_neg (T S : Int) (wf pf : Nat → Int) (j i : Nat) : (cS T S wf pf (j : Int) (i : Int) < 0) = (lessB T S wf pf i j = true ∨ (j < i ∧ ¬ lessB T S wf pf j i = true)) := by
  unfold cS
  rw [show (i : Int).toNat = i from rfl, show (j : Int).toNat = j from rfl]
  apply propext
  by_cases h1 : lessB T S wf pf i j = true
  · rw [if_pos h1]; simp [h1]
  · rw [if_neg h1]
    by_cases h2 : lessB T S wf pf j i = true
    · rw [if_pos h2]; simp [h1, h2]
    · rw [if_neg h2]; simp [h1, h2]; omega
set_option maxHeartbeats 40000000 in
theorem refSplit_ok (T : Int) (ws : List Int) (hT : in64 T) (h0 : spE T ws = 0) : Gives Try.prog 21 [.d (dI T), .d (.list 1 (ws.map dI))] (.d (.list 1 ((spS T ws).map dI))) := by
  have hsp : ws.length ≤ 60 ∧ 0 ≤ T ∧ (∀ x ∈ ws, 0 ≤ x) ∧ ws.sum ≤ 9223372036854775807 ∧ 0 < ws.sum := by
    unfold spE at h0
    split at h0
    · simp at h0
    rename_i h60
    split at h0
    · simp at h0
    rename_i hneg
    split at h0
    · simp at h0
    rename_i hs
    split at h0
    · simp at h0
    rename_i hz
    have hall : ∀ x ∈ ws, 0 ≤ x := fun x hx => by
      have h1 : (ws.any fun w => decide (w < 0)) = false := by
        cases q : (ws.any fun w => decide (w < 0)) with
        | false => rfl
        | true => exact absurd (.inr q) hneg
      rw [List.any_eq_false] at h1
      have := h1 x hx
      simp at this; omega
    have := sum_nonneg hall
    unfold sumB at hs
    simp at hs
    exact ⟨by omega, by omega, hall, hs, by omega⟩
  obtain ⟨h60, hT0, hws0, hsm, hs0⟩ := hsp
  have hwle : ∀ x ∈ ws, x ≤ ws.sum := fun x hx => by
    obtain ⟨k, hk, rfl⟩ := List.getElem_of_mem hx
    have h1 := sum_take_le hws0 (k + 1)
    have h2 := sum_nonneg (l := ws.take k) fun y hy => hws0 y (List.mem_of_mem_take hy)
    rw [sum_take hk] at h1
    omega
  have hsum := refSum_ok ws (fun x hx => by have := hws0 x hx; have := hwle x hx; unfold in64; omega) (by omega)
  have hrs : rsum ws = (ws.sum, true) := by
    unfold rsum
    rw [rsum_nn ws 0 (by decide) (by decide) fun x hx => ⟨hws0 x hx, by have := hwle x hx; omega⟩, Int.zero_add, if_pos hsm]
  rw [hrs] at hsum
  unfold in64 at hT
  unfold spS
  rw [if_pos h0]
  have hle := left_le (t := T.toNat) (s := ws.sum.toNat) (n := ws.length) (w := fun i => (spW ws i).toNat) (by omega) (sum_spW hws0)
  have hmono := fun k h => sumN_mono (spN T ws) (k := k) (n := ws.length) h
  have hleft : spL T ws = T.toNat - sumN (spN T ws) ws.length := rfl
  have hle2 : sumN (spN T ws) ws.length ≤ T.toNat ∧ T.toNat - sumN (spN T ws) ws.length ≤ ws.length := hle
  have hsF : ∀ i, splitF T ws i = spP T ws i + if ahead (cS T ws.sum (spW ws) (spP T ws)) ws.length i < spL T ws then 1 else 0 := fun i => rfl
  have hpb : ∀ i, 0 ≤ spP T ws i ∧ spP T ws i ≤ T := fun i => by
    have : spN T ws i ≤ T.toNat := by
      unfold spN
      have h1 : (spW ws i).toNat ≤ ws.sum.toNat := by
        unfold spW
        cases hq : ws[i]? with
        | none => simp
        | some x => have := hwle x (List.mem_of_getElem? hq); simp; omega
      have h2 := Nat.div_le_div_right (c := ws.sum.toNat) (Nat.mul_le_mul_left T.toNat h1)
      rwa [Nat.mul_div_cancel _ (by omega)] at h2
    unfold spP; omega
  have hpn : ∀ i, spP T ws i = (spN T ws i : Int) := fun i => rfl
  have hwat : ∀ k (h : k < ws.length), spW ws k = ws[k] := fun k h => by unfold spW; rw [List.getElem?_eq_getElem h]; rfl
  have hwn : ∀ i, i < ws.length → inN (spW ws i) := fun i hi => by
    rw [hwat i hi]
    have := hws0 _ (List.getElem_mem hi)
    have := hwle _ (List.getElem_mem hi)
    unfold inN; omega
  have hab := fun i j hi hj => above_ok T ws.sum (spW ws) (spP T ws) ws.length (by unfold inN; omega) (by unfold inN; omega) hwn (fun i hi => by have := hpb i; unfold inN; omega) h60 i j hi hj
  have hcs := cS_neg T ws.sum (spW ws) (spP T ws)
  have hmd : ∀ k (h : k < ws.length), Gives Try.prog 37 [.d (dI T), .d (dI ws[k]), .d (dI ws.sum), .d (dI 0)] (.tup [.d (dI (spP T ws k)), .d (.bool true)]) := fun k h => by
    have h1 := hws0 _ (List.getElem_mem h)
    have h2 := hwle _ (List.getElem_mem h)
    have h3 := md_down (a := T) (b := ws[k]) (c := ws.sum) (by omega) h1 h2 hs0
    have h4 := mulDivB_ok T ws[k] ws.sum 0 (by unfold in64; omega) (by unfold in64; omega) (by unfold in64; omega) (by omega) (by unfold in64; omega)
    rw [h3.1, h3.2] at h4
    have h5 : spP T ws k = ((T.toNat * ws[k].toNat / ws.sum.toNat : Nat) : Int) := by rw [hpn]; unfold spN; rw [hwat k h]
    rw [h5]; exact h4
  rw [← map_spW] at hab
  rw [← rowF_map]
  obtain ⟨S, hS⟩ : ∃ S, ws.sum = S := ⟨_, rfl⟩
  obtain ⟨n, hn⟩ : ∃ n, ws.length = n := ⟨_, rfl⟩
  obtain ⟨W, hW⟩ : ∃ W, spW ws = W := ⟨_, rfl⟩
  obtain ⟨P, hP⟩ : ∃ W, spP T ws = W := ⟨_, rfl⟩
  obtain ⟨N, hN⟩ : ∃ W, spN T ws = W := ⟨_, rfl⟩
  obtain ⟨F, hF⟩ : ∃ W, splitF T ws = W := ⟨_, rfl⟩
  obtain ⟨lf, hlf⟩ : ∃ W, spL T ws = W := ⟨_, rfl⟩
  try simp only [hS, hn, hW, hP, hN, hF, hlf] at hsum
  try simp only [hS, hn, hW, hP, hN, hF, hlf] at hle2
  try simp only [hS, hn, hW, hP, hN, hF, hlf] at hmono
  try simp only [hS, hn, hW, hP, hN, hF, hlf] at hleft
  try simp only [hS, hn, hW, hP, hN, hF, hlf] at hsF
  try simp only [hS, hn, hW, hP, hN, hF, hlf] at hpb
  try simp only [hS, hn, hW, hP, hN, hF, hlf] at hpn
  try simp only [hS, hn, hW, hP, hN, hF, hlf] at hwat
  try simp only [hS, hn, hW, hP, hN, hF, hlf] at hab
  try simp only [hS, hn, hW, hP, hN, hF, hlf] at hcs
  try simp only [hS, hn, hW, hP, hN, hF, hlf] at hmd
  try simp only [hS, hn, hW, hP, hN, hF, hlf] at hwn
  try simp only [hS, hn, hW, hP, hN, hF, hlf] at h60
  rw [hn, hF]
  have hs00 : sumN N 0 = 0 := rfl
  have hz0 : rowF P 0 = [] := rfl
  have hz1 : rowF F 0 = [] := rfl
  refine Gives.enter tabOk Try.func21 rfl (by show 2 ≤ 96; decide) ?_
  simp only [Try.f21]
  refine WpC.seq (WpC.ops tabOk (r := []) (by simp -implicitDefEqProofs [hn, hs00, hz0, hz1] <;> rfl) rfl ?_)
  refine WpC.seq ?_
  refine WpC.region ?_
  refine WpO.run tabOk 1 (by simp -implicitDefEqProofs [hn, hs00, hz0, hz1] <;> first | exact ⟨rfl, rfl⟩ | rfl) ?_
  refine WpO.data (by simp) rfl (by simp -implicitDefEqProofs [hn, hs00, hz0, hz1] <;> rfl) (by simp -implicitDefEqProofs [hn, hs00, hz0, hz1] <;> rfl) (by simp -implicitDefEqProofs [hn, hs00, hz0, hz1] <;> rfl) call_36 (by simp) (hsum) (by rfl) (by simp -implicitDefEqProofs [hn, hs00, hz0, hz1] <;> rfl) ?_
  refine WpO.run tabOk 5 (by simp -implicitDefEqProofs [hn, hs00, hz0, hz1] <;> first | exact ⟨rfl, rfl⟩ | rfl) ?_
  refine WpO.nil ?_
  refine WpC.seq (WpC.ops tabOk (r := []) (by simp -implicitDefEqProofs [hn, hs00, hz0, hz1] <;> rfl) rfl ?_)
  refine WpC.gh (Gh.nilArr 3 1 (t := 7) (by simp) (by simp)) ?_
  refine WpC.seq (WpC.ops tabOk (r := []) (by simp -implicitDefEqProofs [hn, hs00, hz0, hz1] <;> rfl) rfl ?_)
  refine WpC.seq ?_
  refine WpC.seq (WpC.ops tabOk (r := []) (by simp -implicitDefEqProofs [hn, hs00, hz0, hz1] <;> rfl) rfl ?_)
  refine WpC.block ?_
  refine WpC.loopK [0, 1, 5] [7, 8, 9] (n) (() : Unit) (fun k _ => [(7, .sl 0 k), (8, .d (dI (T - (sumN N k : Nat)))), (9, .d (.int .i64 k))]) (fun k _ => [.arr 3 1 (rowF P k)]) (fun k _ => True) (by simp -implicitDefEqProofs [hn, hs00, hz0, hz1] <;> rfl) (Gh.cut' [7, 8, 9, 0, 1, 5] 1 (by simp -implicitDefEqProofs [hn, hs00, hz0, hz1]) (by simp -implicitDefEqProofs [hn, hs00, hz0, hz1]) rfl (by simp) (by simp) (by simp)) (by simp) ?_
  rintro k ⟨⟩ hk hi
  simp only [List.cons_append, List.nil_append]
  refine WpC.seq ?_
  refine WpC.seq (WpC.ops tabOk (r := []) (by simp -implicitDefEqProofs [hn, hs00, hz0, hz1] <;> rfl) rfl ?_)
  refine WpC.condD (k < n) (by simp -implicitDefEqProofs [hn, hs00, hz0, hz1] <;> omega) (fun hlt => ?_) (fun hge => ?_)
  · refine WpC.skip ?_
    have hkl : k < ws.length := by omega
    have hm := hmd k hlt
    obtain ⟨x, hx⟩ : ∃ x, ws[k] = x := ⟨_, rfl⟩
    rw [hx] at hm
    have hst := sumN_step N k
    have hm1 := hmono k (by omega)
    have hm2 := hmono (k + 1) (by omega)
    have hro := rowF_snoc P k
    have hpk := hpn k
    have hpk2 := hpb k
    have hlw : IntKind.i64.wrap (T - (sumN N k : Nat) - P k) = T - (sumN N (k + 1) : Nat) := by rw [wrapI (by omega) (by omega)]; omega
    have hkw : IntKind.i64.wrap ((k : Int) + 1) = k + 1 := wrapI (by omega) (by omega)
    have hks : k ≤ 8589934591 := by omega
    refine WpC.seq ?_
    refine WpC.block ?_
    refine WpC.seq ?_
    refine WpC.region ?_
    refine WpO.run tabOk 6 (by simp -implicitDefEqProofs [hn, hs00, hz0, hz1, hlt, hkl, hx, hlw, hkw, hks] <;> first | exact ⟨rfl, rfl⟩ | rfl) ?_
    refine WpO.data (by simp) rfl (by simp -implicitDefEqProofs [hn, hs00, hz0, hz1, hlt, hkl, hx, hlw, hkw, hks] <;> rfl) (by simp -implicitDefEqProofs [hn, hs00, hz0, hz1, hlt, hkl, hx, hlw, hkw, hks] <;> rfl) (by simp -implicitDefEqProofs [hn, hs00, hz0, hz1, hlt, hkl, hx, hlw, hkw, hks] <;> rfl) call_37 (by simp) (hm) (by rfl) (by simp -implicitDefEqProofs [hn, hs00, hz0, hz1, hlt, hkl, hx, hlw, hkw, hks] <;> rfl) ?_
    refine WpO.run tabOk 5 (by simp -implicitDefEqProofs [hn, hs00, hz0, hz1, hlt, hkl, hx, hlw, hkw, hks] <;> first | exact ⟨rfl, rfl⟩ | rfl) ?_
    refine WpO.nil ?_
    refine WpC.seq (WpC.ops tabOk (r := []) (by simp -implicitDefEqProofs [hn, hs00, hz0, hz1, hlt, hkl, hx, hlw, hkw, hks] <;> rfl) rfl ?_)
    refine WpC.ops tabOk (r := []) (by simp -implicitDefEqProofs [hn, hs00, hz0, hz1, hlt, hkl, hx, hlw, hkw, hks] <;> rfl) rfl ?_
    refine WpC.ops tabOk (r := []) (by simp -implicitDefEqProofs [hn, hs00, hz0, hz1, hlt, hkl, hx, hlw, hkw, hks] <;> rfl) rfl ?_
    exact ⟨hlt, (), trivial, Gh.pick [7, 8, 9, 0, 1, 5] [2] (by simp -implicitDefEqProofs [hn, hs00, hz0, hz1, hlt, hkl, hx, hlw, hkw, hks, hro]; rfl) (by simp -implicitDefEqProofs [hn, hs00, hz0, hz1, hlt, hkl, hx, hlw, hkw, hks, hro]) (by simp) (by simp) (by simp; rfl) (by simp -implicitDefEqProofs [hn, hs00, hz0, hz1, hlt, hkl, hx, hlw, hkw, hks, hro]) (by simp)⟩
  · refine WpC.exit ?_
    obtain rfl : n = k := by omega
    have hL : T - (sumN N n : Nat) = (lf : Int) := by omega
    rw [hL]
    refine WpC.gh (Gh.frz [0]) ?_
    refine WpC.gh (Gh.view (t := 7) (x := .sl 0 n) (y := .d (.list 1 (rowF P n))) (by simp) (by simp)) ?_
    refine WpC.seq (WpC.ops tabOk (r := []) (by simp -implicitDefEqProofs [hn, hs00, hz0, hz1] <;> rfl) rfl ?_)
    refine WpC.seq ?_
    refine WpC.gh (Gh.nilArr 3 1 (t := 12) (by simp) (by simp)) ?_
    refine WpC.seq (WpC.ops tabOk (r := []) (by simp -implicitDefEqProofs [hn, hs00, hz0, hz1] <;> rfl) rfl ?_)
    refine WpC.block ?_
    refine WpC.loopK [0, 1, 5, 7, 8] [12, 13] (n) (() : Unit) (fun k _ => [(12, .sl 0 k), (13, .d (.int .i64 k))]) (fun k _ => [.arr 3 1 (rowF F k)]) (fun k _ => True) (by simp -implicitDefEqProofs [hn, hs00, hz0, hz1] <;> rfl) (Gh.pick [12, 13, 0, 1, 5, 7, 8] [1] (by simp; rfl) (env' := [(12, .sl 0 0), (13, .d (dI 0)), (0, .d (dI T)), (1, .d (.list 1 (ws.map dI))), (5, .d (dI S)), (7, .d (.list 1 (rowF P n))), (8, .d (dI lf))]) (by simp) (by simp) (by simp) (by simp; rfl) (by simp [hz1]) (by simp)) (by simp) ?_
    rintro k ⟨⟩ hk hi
    simp only [List.cons_append, List.nil_append]
    refine WpC.seq ?_
    refine WpC.seq (WpC.ops tabOk (r := []) (by simp -implicitDefEqProofs [hn, hs00, hz0, hz1] <;> rfl) rfl ?_)
    refine WpC.condD (k < n) (by simp -implicitDefEqProofs [hn, hs00, hz0, hz1] <;> omega) (fun hlt => ?_) (fun hge => ?_)
    · refine WpC.skip ?_
      have hi0 := hi
      obtain ⟨i, rfl⟩ : ∃ i, i = k := ⟨k, rfl⟩
      have hin : i < n := hlt
      have hil : i < ws.length := by omega
      have hkw : IntKind.i64.wrap ((i : Int) + 1) = i + 1 := wrapI (by omega) (by omega)
      have hks : i ≤ 8589934591 := by omega
      have hro := rowF_snoc F i
      have hFi := hsF i
      have hpi := hpb i
      obtain ⟨c, hc⟩ : ∃ c, cS T S W P = c := ⟨_, rfl⟩
      rw [hc] at hcs hFi
      have hah : ahead c n i = ahK c i n := rfl
      have hah0 : ahK c i 0 = 0 := rfl
      rw [hah] at hFi
      refine WpC.seq ?_
      refine WpC.block ?_
      refine WpC.seq (WpC.ops tabOk (r := []) (by simp -implicitDefEqProofs [hn, hs00, hz0, hz1, hlt, hin, hil, hkw, hks, hah0] <;> rfl) rfl ?_)
      refine WpC.seq ?_
      refine WpC.seq (WpC.ops tabOk (r := []) (by simp -implicitDefEqProofs [hn, hs00, hz0, hz1, hlt, hin, hil, hkw, hks, hah0] <;> rfl) rfl ?_)
      refine WpC.block ?_
      refine WpC.loopK [0, 1, 5, 7, 8, 12, 13] [14, 15] (n) (() : Unit) (fun k _ => [(14, .d (dI (ahK c i k : Nat))), (15, .d (.int .i64 k))]) (fun k _ => [.arr 3 1 (rowF F i)]) (fun k _ => True) (by simp -implicitDefEqProofs [hn, hs00, hz0, hz1, hlt, hin, hil, hkw, hks, hah0] <;> rfl) (Gh.cut' [14, 15, 0, 1, 5, 7, 8, 12, 13] 1 (by simp -implicitDefEqProofs [hn, hs00, hz0, hz1, hlt, hin, hil, hkw, hks, hah0]) (by simp -implicitDefEqProofs [hn, hs00, hz0, hz1, hlt, hin, hil, hkw, hks, hah0]) rfl (by simp) (by simp) (by simp)) (by simp) ?_
      rintro k ⟨⟩ hk hi
      simp only [List.cons_append, List.nil_append]
      refine WpC.seq ?_
      refine WpC.seq (WpC.ops tabOk (r := []) (by simp -implicitDefEqProofs [hn, hs00, hz0, hz1, hlt, hin, hil, hkw, hks, hah0] <;> rfl) rfl ?_)
      refine WpC.condD (k < n) (by simp -implicitDefEqProofs [hn, hs00, hz0, hz1, hlt, hin, hil, hkw, hks, hah0] <;> omega) (fun hlt => ?_) (fun hge => ?_)
      · refine WpC.skip ?_
        have hjl : k < ws.length := by omega
        have a1 := hab k i hlt hin
        have a2 := hab i k hin hlt
        have hst : ahK c i (k + 1) = ahK c i k + if c (k : Int) i < 0 then 1 else 0 := aheadK_step c i k
        have hcn := hcs k i
        have hjw : IntKind.i64.wrap ((k : Int) + 1) = k + 1 := wrapI (by omega) (by omega)
        have hak : ahK c i k ≤ k := by have := List.countP_le_length (p := fun (j : Nat) => decide (c (j : Int) i < 0)) (l := List.range k); simpa [ahK] using this
        have haw : IntKind.i64.wrap ((ahK c i k : Int) + 1) = (ahK c i k : Int) + 1 := wrapI (by omega) (by omega)
        refine WpC.seq ?_
        refine WpC.block ?_
        refine WpC.seq ?_
        refine WpC.val 79 (.d (.bool (decide (c (k : Int) i < 0)))) ?_ ?_
        · refine WpC.region ?_
          refine WpO.run tabOk 6 (by simp -implicitDefEqProofs [hn, hs00, hz0, hz1, hlt, hin, hil, hkw, hks, hah0, hlt, hjl, hjw, haw] <;> first | exact ⟨rfl, rfl⟩ | rfl) ?_
          refine WpO.data (by simp) rfl (by simp -implicitDefEqProofs [hn, hs00, hz0, hz1, hlt, hin, hil, hkw, hks, hah0, hlt, hjl, hjw, haw] <;> rfl) (by simp -implicitDefEqProofs [hn, hs00, hz0, hz1, hlt, hin, hil, hkw, hks, hah0, hlt, hjl, hjw, haw] <;> rfl) (by simp -implicitDefEqProofs [hn, hs00, hz0, hz1, hlt, hin, hil, hkw, hks, hah0, hlt, hjl, hjw, haw] <;> rfl) call_38 (by simp) (a1) (by rfl) (by simp -implicitDefEqProofs [hn, hs00, hz0, hz1, hlt, hin, hil, hkw, hks, hah0, hlt, hjl, hjw, haw] <;> rfl) ?_
          refine WpO.run tabOk 1 (by simp -implicitDefEqProofs [hn, hs00, hz0, hz1, hlt, hin, hil, hkw, hks, hah0, hlt, hjl, hjw, haw] <;> first | exact ⟨rfl, rfl⟩ | rfl) ?_
          refine WpO.splitB 65 (by simp -implicitDefEqProofs [hn, hs00, hz0, hz1, hlt, hin, hil, hkw, hks, hah0, hlt, hjl, hjw, haw] <;> rfl) (by rfl) (fun g65 => ?_) (fun g65 => ?_)
          · have g65' := g65; first | simp only [dT, dF] at g65' | try simp at g65'
            refine WpO.run tabOk 14 (by simp -implicitDefEqProofs [hn, hs00, hz0, hz1, hlt, hin, hil, hkw, hks, hah0, hlt, hjl, hjw, haw, g65] <;> first | exact ⟨rfl, rfl⟩ | rfl) ?_
            refine WpO.nil ?_
            refine ⟨rfl, Gh.only 79 23 ?_ (by first | rfl | simp -implicitDefEqProofs [hn, hs00, hz0, hz1, hlt, hin, hil, hkw, hks, hah0, hlt, hjl, hjw, haw, g65]) (by rfl)⟩
            simp -implicitDefEqProofs [hn, hs00, hz0, hz1, hlt, hin, hil, hkw, hks, hah0, hlt, hjl, hjw, haw, g65, g65', hcn]
          · have g65' := g65; first | simp only [dT, dF] at g65' | try simp at g65'
            refine WpO.run tabOk 4 (by simp -implicitDefEqProofs [hn, hs00, hz0, hz1, hlt, hin, hil, hkw, hks, hah0, hlt, hjl, hjw, haw, g65] <;> first | exact ⟨rfl, rfl⟩ | rfl) ?_
            refine WpO.splitB 69 (by simp -implicitDefEqProofs [hn, hs00, hz0, hz1, hlt, hin, hil, hkw, hks, hah0, hlt, hjl, hjw, haw, g65] <;> rfl) (by rfl) (fun g69 => ?_) (fun g69 => ?_)
            · have g69' := g69; first | simp only [dT, dF] at g69' | try simp at g69'
              refine WpO.run tabOk 6 (by simp -implicitDefEqProofs [hn, hs00, hz0, hz1, hlt, hin, hil, hkw, hks, hah0, hlt, hjl, hjw, haw, g65, g69] <;> first | exact ⟨rfl, rfl⟩ | rfl) ?_
              refine WpO.data (by simp) rfl (by simp -implicitDefEqProofs [hn, hs00, hz0, hz1, hlt, hin, hil, hkw, hks, hah0, hlt, hjl, hjw, haw, g65, g69] <;> rfl) (by simp -implicitDefEqProofs [hn, hs00, hz0, hz1, hlt, hin, hil, hkw, hks, hah0, hlt, hjl, hjw, haw, g65, g69] <;> rfl) (by simp -implicitDefEqProofs [hn, hs00, hz0, hz1, hlt, hin, hil, hkw, hks, hah0, hlt, hjl, hjw, haw, g65, g69] <;> rfl) call_38 (by simp) (a2) (by rfl) (by simp -implicitDefEqProofs [hn, hs00, hz0, hz1, hlt, hin, hil, hkw, hks, hah0, hlt, hjl, hjw, haw, g65, g69] <;> rfl) ?_
              refine WpO.run tabOk 3 (by simp -implicitDefEqProofs [hn, hs00, hz0, hz1, hlt, hin, hil, hkw, hks, hah0, hlt, hjl, hjw, haw, g65, g69] <;> first | exact ⟨rfl, rfl⟩ | rfl) ?_
              refine WpO.nil ?_
              refine ⟨rfl, Gh.only 79 24 ?_ (by first | rfl | simp -implicitDefEqProofs [hn, hs00, hz0, hz1, hlt, hin, hil, hkw, hks, hah0, hlt, hjl, hjw, haw, g65, g69]) (by rfl)⟩
              simp -implicitDefEqProofs [hn, hs00, hz0, hz1, hlt, hin, hil, hkw, hks, hah0, hlt, hjl, hjw, haw, g65, g69, g65', g69', hcn]
            · have g69' := g69; first | simp only [dT, dF] at g69' | try simp at g69'
              refine WpO.run tabOk 10 (by simp -implicitDefEqProofs [hn, hs00, hz0, hz1, hlt, hin, hil, hkw, hks, hah0, hlt, hjl, hjw, haw, g65, g69] <;> first | exact ⟨rfl, rfl⟩ | rfl) ?_
              refine WpO.nil ?_
              refine ⟨rfl, Gh.only 79 24 ?_ (by first | rfl | simp -implicitDefEqProofs [hn, hs00, hz0, hz1, hlt, hin, hil, hkw, hks, hah0, hlt, hjl, hjw, haw, g65, g69]) (by rfl)⟩
              simp -implicitDefEqProofs [hn, hs00, hz0, hz1, hlt, hin, hil, hkw, hks, hah0, hlt, hjl, hjw, haw, g65, g69, g65', g69', hcn]
        refine WpC.condD (c (k : Int) i < 0) (by simp -implicitDefEqProofs [hn, hs00, hz0, hz1, hlt, hin, hil, hkw, hks, hah0, hlt, hjl, hjw, haw]) (fun d79 => ?_) (fun d79 => ?_)
        · refine WpC.ops tabOk (r := []) (by simp -implicitDefEqProofs [hn, hs00, hz0, hz1, hlt, hin, hil, hkw, hks, hah0, hlt, hjl, hjw, haw, d79] <;> rfl) rfl ?_
          refine WpC.ops tabOk (r := []) (by simp -implicitDefEqProofs [hn, hs00, hz0, hz1, hlt, hin, hil, hkw, hks, hah0, hlt, hjl, hjw, haw, d79] <;> rfl) rfl ?_
          exact ⟨hlt, (), trivial, Gh.cut' [14, 15, 0, 1, 5, 7, 8, 12, 13] 1 (by simp -implicitDefEqProofs [hn, hs00, hz0, hz1, hlt, hin, hil, hkw, hks, hah0, hlt, hjl, hjw, haw, d79, hst]) (by simp -implicitDefEqProofs [hn, hs00, hz0, hz1, hlt, hin, hil, hkw, hks, hah0, hlt, hjl, hjw, haw, d79, hst]) rfl (by simp) (by simp) (by simp)⟩
        · refine WpC.skip ?_
          refine WpC.ops tabOk (r := []) (by simp -implicitDefEqProofs [hn, hs00, hz0, hz1, hlt, hin, hil, hkw, hks, hah0, hlt, hjl, hjw, haw, d79] <;> rfl) rfl ?_
          exact ⟨hlt, (), trivial, Gh.cut' [14, 15, 0, 1, 5, 7, 8, 12, 13] 1 (by simp -implicitDefEqProofs [hn, hs00, hz0, hz1, hlt, hin, hil, hkw, hks, hah0, hlt, hjl, hjw, haw, d79, hst]) (by simp -implicitDefEqProofs [hn, hs00, hz0, hz1, hlt, hin, hil, hkw, hks, hah0, hlt, hjl, hjw, haw, d79, hst]) rfl (by simp) (by simp) (by simp)⟩
      · refine WpC.exit ?_
        obtain rfl : n = k := by omega
        obtain ⟨A, hA⟩ : ∃ A, ahK c i n = A := ⟨_, rfl⟩
        rw [hA] at hFi ⊢
        have hFi2 : F i = P i + if A < lf then 1 else 0 := hFi
        have hpw : IntKind.i64.wrap (P i + 1) = P i + 1 ∨ P i = 9223372036854775807 := by
          by_cases h : P i = 9223372036854775807
          · exact .inr h
          · exact .inl (wrapI (by omega) (by omega))
        refine WpC.seq (WpC.ops tabOk (r := []) (by simp -implicitDefEqProofs [hn, hs00, hz0, hz1, hlt, hin, hil, hkw, hks, hah0] <;> rfl) rfl ?_)
        refine WpC.seq ?_
        refine WpC.seq (WpC.ops tabOk (r := []) (by simp -implicitDefEqProofs [hn, hs00, hz0, hz1, hlt, hin, hil, hkw, hks, hah0] <;> rfl) rfl ?_)
        refine WpC.condD (A < lf) (by simp -implicitDefEqProofs [hn, hs00, hz0, hz1, hlt, hin, hil, hkw, hks, hah0]) (fun d88 => ?_) (fun d88 => ?_)
        · have hlf : lf ≤ n := by omega
          have hpw : IntKind.i64.wrap (P i + 1) = P i + 1 := by
            have h1 := hmono (i + 1) hin
            have h2 := sumN_step N i
            have h3 := hpn i
            exact wrapI (by omega) (by omega)
          rw [if_pos d88] at hFi2
          rw [hFi2] at hro
          refine WpC.ops tabOk (r := []) (by simp -implicitDefEqProofs [hn, hs00, hz0, hz1, hlt, hin, hil, hkw, hks, hah0, d88, hpw] <;> rfl) rfl ?_
          refine WpC.ops tabOk (r := []) (by simp -implicitDefEqProofs [hn, hs00, hz0, hz1, hlt, hin, hil, hkw, hks, hah0, d88, hpw] <;> rfl) rfl ?_
          refine WpC.ops tabOk (r := []) (by simp -implicitDefEqProofs [hn, hs00, hz0, hz1, hlt, hin, hil, hkw, hks, hah0, d88, hpw] <;> rfl) rfl ?_
          exact ⟨hlt, (), trivial, Gh.pick [12, 13, 0, 1, 5, 7, 8] [2] (by simp -implicitDefEqProofs [hn, hs00, hz0, hz1, hlt, hin, hil, hkw, hks, hah0, d88, hpw, hro]; rfl) (by simp -implicitDefEqProofs [hn, hs00, hz0, hz1, hlt, hin, hil, hkw, hks, hah0, d88, hpw, hro]) (by simp) (by simp) (by simp; rfl) (by simp -implicitDefEqProofs [hn, hs00, hz0, hz1, hlt, hin, hil, hkw, hks, hah0, d88, hpw, hro]) (by simp)⟩
        · rw [if_neg d88] at hFi2
          rw [hFi2, Int.add_zero] at hro
          refine WpC.skip ?_
          refine WpC.ops tabOk (r := []) (by simp -implicitDefEqProofs [hn, hs00, hz0, hz1, hlt, hin, hil, hkw, hks, hah0, d88] <;> rfl) rfl ?_
          refine WpC.ops tabOk (r := []) (by simp -implicitDefEqProofs [hn, hs00, hz0, hz1, hlt, hin, hil, hkw, hks, hah0, d88] <;> rfl) rfl ?_
          exact ⟨hlt, (), trivial, Gh.pick [12, 13, 0, 1, 5, 7, 8] [2] (by simp -implicitDefEqProofs [hn, hs00, hz0, hz1, hlt, hin, hil, hkw, hks, hah0, d88, hro]; rfl) (by simp -implicitDefEqProofs [hn, hs00, hz0, hz1, hlt, hin, hil, hkw, hks, hah0, d88, hro]) (by simp) (by simp) (by simp; rfl) (by simp -implicitDefEqProofs [hn, hs00, hz0, hz1, hlt, hin, hil, hkw, hks, hah0, d88, hro]) (by simp)⟩
    · refine WpC.exit ?_
      obtain rfl : n = k := by omega
      refine WpC.seq (WpC.ops tabOk (r := []) (by simp -implicitDefEqProofs [hn, hs00, hz0, hz1] <;> rfl) rfl ?_)
      refine WpC.ret ?_
      try simp only [blockQ, seqQ]
      refine retD_i (by simp -implicitDefEqProofs [hn, hs00, hz0, hz1] <;> rfl) (by simp -implicitDefEqProofs [hn, hs00, hz0, hz1] <;> rfl) ?_
      simp -implicitDefEqProofs [hn, hs00, hz0, hz1]
end Go.Proofs.Ytaobnhenjldjeaa.Pay
/- slices.Sort at twelve numbers or fewer. No statement of the seed is proved here. -/
namespace Go.Proofs.Ytaobnhenjldjeaa.Pay
open Go Go.RowKit
set_option linter.unusedVariables false
set_option linter.unusedSimpArgs false
set_option linter.unusedSectionVars false

theorem isNaN_ok (x : Int) : Gives Try.prog 81 [.d (dI x)] (.d (.bool false)) := by
  refine Gives.enter tabOk Try.func81 rfl (by show 1 ≤ 6; decide) ?_
  simp only [Try.f81]
  refine WpC.seq (WpC.ops tabOk (r := []) (by simp -implicitDefEqProofs <;> rfl) rfl ?_)
  refine WpC.seq (WpC.ops tabOk (r := []) (by simp -implicitDefEqProofs <;> rfl) rfl ?_)
  refine WpC.ret ?_
  try simp only [blockQ, seqQ]
  refine retD_i (by simp -implicitDefEqProofs <;> rfl) (by simp -implicitDefEqProofs <;> rfl) ?_
  simp -implicitDefEqProofs
theorem cless_ok (x y : Int) : Gives Try.prog 65 [.d (dI x), .d (dI y)] (.d (.bool (decide (x < y)))) := by
  refine Gives.enter tabOk Try.func65 rfl (by show 2 ≤ 17; decide) ?_
  simp only [Try.f65]
  refine WpC.seq (WpC.ops tabOk (r := []) (by simp -implicitDefEqProofs <;> rfl) rfl ?_)
  refine WpC.seq ?_
  refine WpC.region ?_
  refine WpO.run tabOk 1 (by simp -implicitDefEqProofs <;> first | exact ⟨rfl, rfl⟩ | rfl) ?_
  refine WpO.data (by simp) rfl (by simp -implicitDefEqProofs <;> rfl) (by simp -implicitDefEqProofs <;> rfl) (by simp -implicitDefEqProofs <;> rfl) call_81 (by simp) (isNaN_ok x) (by rfl) (by simp -implicitDefEqProofs <;> rfl) ?_
  refine WpO.run tabOk 1 (by simp -implicitDefEqProofs <;> first | exact ⟨rfl, rfl⟩ | rfl) ?_
  refine WpO.splitB 7 (by simp -implicitDefEqProofs <;> rfl) (by rfl) (fun g7 => ?_) (fun g7 => ?_)
  · try (exfalso; revert g7; simp; done)
    all_goals
      have g7' := g7; first | simp only [dT, dF] at g7' | try simp at g7'
      refine WpO.run tabOk 1 (by simp -implicitDefEqProofs [g7] <;> first | exact ⟨rfl, rfl⟩ | rfl) ?_
      refine WpO.data (by simp) rfl (by simp -implicitDefEqProofs [g7] <;> rfl) (by simp -implicitDefEqProofs [g7] <;> rfl) (by simp -implicitDefEqProofs [g7] <;> rfl) call_81 (by simp) (isNaN_ok y) (by rfl) (by simp -implicitDefEqProofs [g7] <;> rfl) ?_
      refine WpO.run tabOk 3 (by simp -implicitDefEqProofs [g7] <;> first | exact ⟨rfl, rfl⟩ | rfl) ?_
      refine WpO.splitB 12 (by simp -implicitDefEqProofs [g7] <;> rfl) (by rfl) (fun g12 => ?_) (fun g12 => ?_)
      · try (exfalso; revert g12; simp; done)
        all_goals
          have g12' := g12; first | simp only [dT, dF] at g12' | try simp at g12'
          refine WpO.run tabOk 5 (by simp -implicitDefEqProofs [g7, g12] <;> first | exact ⟨rfl, rfl⟩ | rfl) ?_
          refine WpO.nil ?_
          refine WpC.ret ?_
          try simp only [blockQ, seqQ]
          refine retD_i (by simp -implicitDefEqProofs [g7, g12] <;> rfl) (by simp -implicitDefEqProofs [g7, g12] <;> rfl) ?_
          simp -implicitDefEqProofs [g7, g12]
      · try (exfalso; revert g12; simp; done)
        all_goals
          have g12' := g12; first | simp only [dT, dF] at g12' | try simp at g12'
          refine WpO.run tabOk 5 (by simp -implicitDefEqProofs [g7, g12] <;> first | exact ⟨rfl, rfl⟩ | rfl) ?_
          refine WpO.nil ?_
          refine WpC.ret ?_
          try simp only [blockQ, seqQ]
          refine retD_i (by simp -implicitDefEqProofs [g7, g12] <;> rfl) (by simp -implicitDefEqProofs [g7, g12] <;> rfl) ?_
          simp -implicitDefEqProofs [g7, g12]
  · try (exfalso; revert g7; simp; done)
    all_goals
      have g7' := g7; first | simp only [dT, dF] at g7' | try simp at g7'
      refine WpO.run tabOk 10 (by simp -implicitDefEqProofs [g7] <;> first | exact ⟨rfl, rfl⟩ | rfl) ?_
      refine WpO.nil ?_
      refine WpC.ret ?_
      try simp only [blockQ, seqQ]
      refine retD_i (by simp -implicitDefEqProofs [g7] <;> rfl) (by simp -implicitDefEqProofs [g7] <;> rfl) ?_
      simp -implicitDefEqProofs [g7]
/-- What was there is still there. -/
def Rch (a b : Nat) (g h : Nat → Int) : Prop := ∀ i, a ≤ i → i < b → ∃ j, a ≤ j ∧ j < b ∧ h j = g i
theorem Rch.refl (a b : Nat) (g : Nat → Int) : Rch a b g g := fun i h1 h2 => ⟨i, h1, h2, rfl⟩
theorem Rch.trans {a b : Nat} {g h k : Nat → Int} (x : Rch a b g h) (y : Rch a b h k) : Rch a b g k := fun i h1 h2 => by
  obtain ⟨j, j1, j2, e⟩ := x i h1 h2
  obtain ⟨l, l1, l2, e2⟩ := y j j1 j2
  exact ⟨l, l1, l2, e2.trans e⟩
theorem Rch.sw {a b i j : Nat} (g : Nat → Int) (h1 : a ≤ i) (h2 : i < b) (h3 : a ≤ j) (h4 : j < b) : Rch a b g (sw g i j) := fun k k1 k2 => by
  by_cases e1 : k = i
  · exact ⟨j, h3, h4, by rw [sw_at, if_pos rfl, e1]⟩
  · by_cases e2 : k = j
    · exact ⟨i, h1, h2, by rw [sw_at, if_pos rfl, e2]; split <;> simp_all⟩
    · exact ⟨k, k1, k2, by rw [sw_at, if_neg e2, if_neg e1]⟩
def cI (x y : Int) : Int := x - y
theorem cI_cmp : Cmp cI fun _ => True := ⟨fun x y _ _ h => by unfold cI at *; omega, fun x y z _ _ _ h1 h2 => by unfold cI at *; omega, fun x y _ _ h => by unfold cI; omega⟩
theorem cI_lt (x y : Int) : cI x y < 0 ↔ x < y := by unfold cI; omega
set_option maxHeartbeats 4000000 in
theorem insO_ok (g : Nat → Int) (n a b : Nat) (h1 : a ≤ b) (h2 : b ≤ n) (hn : n ≤ 1000000) :
    WpF Try.prog 59 [.sl 0 n, .d (dI a), .d (dI b)] [.arr 3 1 (rowF g n)]
      fun r S => ∃ h, r = .tup [] ∧ S = [.arr 3 1 (rowF h n)] ∧ Mv a b g h ∧ Rch a b g h ∧ Srtd cI h a b := by
  have hw0 : IntKind.i64.wrap ((a : Int) + 1) = ((a + 1 : Nat) : Int) := by rw [wrapI (by omega) (by omega)]; omega
  refine WpF.enter tabOk Try.func59 rfl (by show 3 ≤ 49; decide) ?_
  simp only [Try.f59]
  refine WpC.seq (WpC.ops tabOk (r := []) (by simp -implicitDefEqProofs [hw0] <;> rfl) rfl ?_)
  refine WpC.block ?_
  refine WpC.loopM [0, 1, 2] [6] (fun x => b - x.1) ((a + 1, g) : Nat × (Nat → Int)) (fun x => [(6, .d (dI (x.1 : Nat)))]) (fun x => [.arr 3 1 (rowF x.2 n)]) (fun x => a + 1 ≤ x.1 ∧ x.1 ≤ b + 1 ∧ Mv a b g x.2 ∧ Rch a b g x.2 ∧ Srtd cI x.2 a x.1) (by simp -implicitDefEqProofs [hw0] <;> rfl) (Gh.cut' [6, 0, 1, 2] 1 (by simp -implicitDefEqProofs [hw0]) (by simp -implicitDefEqProofs [hw0]) rfl (by simp) (by simp) (by simp)) (⟨by simp, by simp; omega, Mv.refl _ _ _, Rch.refl _ _ _, fun i j i1 i2 i3 => by simp at i3; omega⟩) ?_
  rintro x hi
  simp only [List.cons_append, List.nil_append]
  obtain ⟨i, h⟩ := x
  obtain ⟨h3, h4, h5, h7, h6⟩ := hi
  simp only at h3 h4 h5 h6 h7 ⊢
  refine WpC.seq ?_
  refine WpC.seq (WpC.ops tabOk (r := []) (by simp -implicitDefEqProofs [hw0] <;> rfl) rfl ?_)
  refine WpC.condR (by simp -implicitDefEqProofs [hw0] <;> rfl) (by rfl) (fun c12 => ?_) (fun c12 => ?_)
  · have c12' := c12; first | simp only [dT, dF] at c12' | try simp at c12'
    have hib : i < b := by simpa using c12
    have hw1 : IntKind.i64.wrap ((i : Int) + 1) = ((i + 1 : Nat) : Int) := by rw [wrapI (by omega) (by omega)]; omega
    refine WpC.skip ?_
    refine WpC.seq ?_
    refine WpC.block ?_
    refine WpC.seq (WpC.ops tabOk (r := []) (by simp -implicitDefEqProofs [hw0, c12, hw1] <;> rfl) rfl ?_)
    refine WpC.block ?_
    refine WpC.loopM [0, 1, 2, 6] [7] (fun y => y.1) ((i, h) : Nat × (Nat → Int)) (fun y => [(7, .d (dI (y.1 : Nat)))]) (fun y => [.arr 3 1 (rowF y.2 n)]) (fun y => a ≤ y.1 ∧ y.1 ≤ i ∧ Mv a b g y.2 ∧ Rch a b g y.2 ∧ InsI cI y.2 a i y.1) (by simp -implicitDefEqProofs [hw0, c12, hw1] <;> rfl) (Gh.cut' [7, 0, 1, 2, 6] 1 (by simp -implicitDefEqProofs [hw0, c12, hw1]) (by simp -implicitDefEqProofs [hw0, c12, hw1]) rfl (by simp) (by simp) (by simp)) (⟨by simp; omega, by simp, h5, h7, ins_begin h6⟩) ?_
    rintro y hi
    simp only [List.cons_append, List.nil_append]
    obtain ⟨j, h'⟩ := y
    obtain ⟨h3', h4', h5', h7', h6'⟩ := hi
    simp only at h3' h4' h5' h6' h7' ⊢
    obtain ⟨q, hq⟩ : ∃ q, j - 1 = q := ⟨_, rfl⟩
    have hok' : AllOk (fun _ => True) h' n := fun _ _ => trivial
    have hjn : j < n := by omega
    have hqn : q < n := by omega
    refine WpC.seq ?_
    refine WpC.seq ?_
    refine WpC.val 30 (.d (.bool (decide (a < j ∧ h' j < h' q)))) ?_ ?_
    · refine WpC.drawn tabOk (by kernel_rfl) 0 (by simp) ?_
      refine DrO.run (fz := []) 3 (by simp -implicitDefEqProofs [hw0, c12, hw1] <;> first | exact ⟨rfl, rfl, rfl, rfl⟩ | rfl) ?_
      refine DrO.run (fz := []) 1 (by simp -implicitDefEqProofs [hw0, c12, hw1] <;> first | exact ⟨rfl, rfl, rfl, rfl⟩ | rfl) ?_
      refine DrO.splitB 19 (by simp -implicitDefEqProofs [hw0, c12, hw1] <;> rfl) (by rfl) (fun g19 => ?_) (fun g19 => ?_)
      · have g19' := g19; first | simp only [dT, dF] at g19' | try simp at g19'
        have hw2 : IntKind.i64.wrap ((j : Int) - 1) = (q : Int) := by simp at g19; rw [wrapI (by omega) (by omega)]; omega
        refine DrO.run (fz := []) 3 (by simp -implicitDefEqProofs [hw0, c12, hw1, g19, hw2, hjn, hqn] <;> first | exact ⟨rfl, rfl, rfl, rfl⟩ | rfl) ?_
        refine DrO.run (fz := []) 3 (by simp -implicitDefEqProofs [hw0, c12, hw1, g19, hw2, hjn, hqn] <;> first | exact ⟨rfl, rfl, rfl, rfl⟩ | rfl) ?_
        refine DrO.run (fz := []) 3 (by simp -implicitDefEqProofs [hw0, c12, hw1, g19, hw2, hjn, hqn] <;> first | exact ⟨rfl, rfl, rfl, rfl⟩ | rfl) ?_
        refine DrO.data (by simp) rfl (by simp -implicitDefEqProofs [hw0, c12, hw1, g19, hw2, hjn, hqn] <;> rfl) (by simp -implicitDefEqProofs [hw0, c12, hw1, g19, hw2, hjn, hqn] <;> rfl) (by simp -implicitDefEqProofs [hw0, c12, hw1, g19, hw2, hjn, hqn] <;> rfl) call_65 (cless_ok (h' j) (h' q)) (by rfl) (by simp -implicitDefEqProofs [hw0, c12, hw1, g19, hw2, hjn, hqn] <;> rfl) ?_
        refine DrO.run (fz := []) 1 (by simp -implicitDefEqProofs [hw0, c12, hw1, g19, hw2, hjn, hqn] <;> first | exact ⟨rfl, rfl, rfl, rfl⟩ | rfl) ?_
        refine DrO.nil ⟨by kernel_rfl, ?_⟩
        refine ⟨rfl, Gh.only 30 15 ?_ (by first | rfl | simp -implicitDefEqProofs [hw0, c12, hw1, g19, hw2, hjn, hqn]) (by rfl)⟩
        simp -implicitDefEqProofs [hw0, c12, hw1, g19, hw2, hjn, hqn, g19']
      · have g19' := g19; first | simp only [dT, dF] at g19' | try simp at g19'
        refine DrO.run (fz := []) 3 (by simp -implicitDefEqProofs [hw0, c12, hw1, g19] <;> first | exact ⟨rfl, rfl, rfl, rfl⟩ | rfl) ?_
        refine DrO.run (fz := []) 3 (by simp -implicitDefEqProofs [hw0, c12, hw1, g19] <;> first | exact ⟨rfl, rfl, rfl, rfl⟩ | rfl) ?_
        refine DrO.run (fz := []) 3 (by simp -implicitDefEqProofs [hw0, c12, hw1, g19] <;> first | exact ⟨rfl, rfl, rfl, rfl⟩ | rfl) ?_
        refine DrO.run (fz := []) 2 (by simp -implicitDefEqProofs [hw0, c12, hw1, g19] <;> first | exact ⟨rfl, rfl, rfl, rfl⟩ | rfl) ?_
        refine DrO.nil ⟨by kernel_rfl, ?_⟩
        refine ⟨rfl, Gh.only 30 15 ?_ (by first | rfl | simp -implicitDefEqProofs [hw0, c12, hw1, g19]) (by rfl)⟩
        simp -implicitDefEqProofs [hw0, c12, hw1, g19, g19']
    refine WpC.condD (a < j ∧ h' j < h' q) (by simp -implicitDefEqProofs [hw0, c12, hw1]) (fun d30 => ?_) (fun d30 => ?_)
    · have hw2 : IntKind.i64.wrap ((j : Int) - 1) = (q : Int) := by rw [wrapI (by omega) (by omega)]; omega
      refine WpC.skip ?_
      refine WpC.seq ?_
      refine WpC.block ?_
      refine WpC.drawn tabOk (by kernel_rfl) 0 (by simp) ?_
      refine DrO.run (fz := []) 3 (by simp -implicitDefEqProofs [hw0, c12, hw1, d30, hw2, hjn, hqn] <;> first | exact ⟨rfl, rfl, rfl, rfl⟩ | rfl) ?_
      refine DrO.run (fz := []) 3 (by simp -implicitDefEqProofs [hw0, c12, hw1, d30, hw2, hjn, hqn] <;> first | exact ⟨rfl, rfl, rfl, rfl⟩ | rfl) ?_
      refine DrO.run (fz := []) 3 (by simp -implicitDefEqProofs [hw0, c12, hw1, d30, hw2, hjn, hqn] <;> first | exact ⟨rfl, rfl, rfl, rfl⟩ | rfl) ?_
      refine DrO.run (fz := []) 3 (by simp -implicitDefEqProofs [hw0, c12, hw1, d30, hw2, hjn, hqn] <;> first | exact ⟨rfl, rfl, rfl, rfl⟩ | rfl) ?_
      refine DrO.run (fz := []) 3 (by simp -implicitDefEqProofs [hw0, c12, hw1, d30, hw2, hjn, hqn] <;> first | exact ⟨rfl, rfl, rfl, rfl⟩ | rfl) ?_
      refine DrO.run (fz := []) 3 (by simp -implicitDefEqProofs [hw0, c12, hw1, d30, hw2, hjn, hqn] <;> first | exact ⟨rfl, rfl, rfl, rfl⟩ | rfl) ?_
      refine DrO.nil ⟨by kernel_rfl, ?_⟩
      refine WpC.ops tabOk (r := []) (by simp -implicitDefEqProofs [hw0, c12, hw1, d30, hw2, hjn, hqn] <;> rfl) rfl ?_
      exact ⟨(q, sw h' j q), ⟨by simp; omega, by simp; omega, h5'.trans (Mv.sw _ (by omega) (by omega) (by omega) (by omega)), h7'.trans (Rch.sw _ (by omega) (by omega) (by omega) (by omega)), ins_step cI_cmp hq hok' hjn h6' d30.1 h4' ((cI_lt _ _).2 d30.2)⟩, by simp; omega, Gh.cut' [7, 0, 1, 2, 6] 1 (by simp -implicitDefEqProofs [hw0, c12, hw1, d30, hw2, hjn, hqn, c12', sw]) (by simp -implicitDefEqProofs [hw0, c12, hw1, d30, hw2, hjn, hqn, c12', sw]) rfl (by simp) (by simp) (by simp)⟩
    · have hsr := ins_end cI_cmp hq hok' (by omega) h6' h4' (fun z => d30 ⟨z.1, (cI_lt _ _).1 z.2⟩)
      refine WpC.exit ?_
      refine WpC.ops tabOk (r := []) (by simp -implicitDefEqProofs [hw0, c12, hw1, d30] <;> rfl) rfl ?_
      exact ⟨(i + 1, h'), ⟨by simp; omega, by simp; omega, h5', h7', hsr⟩, by simp; omega, Gh.cut' [6, 0, 1, 2] 1 (by simp -implicitDefEqProofs [hw0, c12, hw1, d30, c12']) (by simp -implicitDefEqProofs [hw0, c12, hw1, d30, c12']) rfl (by simp) (by simp) (by simp)⟩
  · have c12' := c12; first | simp only [dT, dF] at c12' | try simp at c12'
    refine WpC.exit ?_
    refine ⟨.inl rfl, [], rfl, ?_, by simp⟩
    exact ⟨h, rfl, rfl, h5, h7, fun p r p1 p2 p3 => h6 p r p1 p2 (by simp at c12; omega)⟩
theorem pdq_ok (g : Nat → Int) (n : Nat) (lim : Int) (hn : n ≤ 12) :
    WpF Try.prog 40 [.sl 0 n, .d (dI 0), .d (dI n), .d (dI lim)] [.arr 3 1 (rowF g n)]
      fun r S => ∃ h, r = .tup [] ∧ S = [.arr 3 1 (rowF h n)] ∧ Mv 0 n g h ∧ Rch 0 n g h ∧ Srtd cI h 0 n := by
  have hc := insO_ok g n 0 n (Nat.zero_le _) (Nat.le_refl _) (by omega)
  have e0 : ((0 : Nat) : Int) = 0 := rfl
  rw [e0] at hc
  have hw : IntKind.i64.wrap ((n : Int)) = n := wrapI (by omega) (by omega)
  have hn' : (n : Int) ≤ 12 := by omega
  have hn2 : ¬ (12 : Int) < n := by omega
  refine WpF.enter tabOk Try.func40 rfl (by show 4 ≤ 134; decide) ?_
  simp only [Try.f40]
  refine WpC.seq (WpC.ops tabOk (r := []) (by simp -implicitDefEqProofs [hw, hn', hn2] <;> rfl) rfl ?_)
  refine WpC.seq (WpC.ops tabOk (r := []) (by simp -implicitDefEqProofs [hw, hn', hn2] <;> rfl) rfl ?_)
  refine WpC.block ?_
  refine WpC.loopM [0] [1, 2, 3, 8, 9] (fun _ => 0) (() : Unit) (fun _ => [(1, .d (dI 0)), (2, .d (dI n)), (3, .d (dI lim)), (8, .d (.bool true)), (9, .d (.bool true))]) (fun _ => [.arr 3 1 (rowF g n)]) (fun _ => True) (by simp -implicitDefEqProofs [hw, hn', hn2] <;> rfl) (Gh.cut' [1, 2, 3, 8, 9, 0] 1 (by simp -implicitDefEqProofs [hw, hn', hn2]) (by simp -implicitDefEqProofs [hw, hn', hn2]) rfl (by simp) (by simp) (by simp)) (by simp) ?_
  rintro ⟨⟩ hi
  simp only [List.cons_append, List.nil_append]
  refine WpC.block ?_
  refine WpC.seq (WpC.ops tabOk (r := []) (by simp -implicitDefEqProofs [hw, hn', hn2] <;> rfl) rfl ?_)
  refine WpC.seq ?_
  refine WpC.seq (WpC.ops tabOk (r := []) (by simp -implicitDefEqProofs [hw, hn', hn2] <;> rfl) rfl ?_)
  refine WpC.condT (by simp -implicitDefEqProofs [hw, hn', hn2] <;> rfl) ?_
  refine WpC.seq ?_
  refine WpC.region ?_
  refine WpO.run tabOk 3 (by simp -implicitDefEqProofs [hw, hn', hn2] <;> first | exact ⟨rfl, rfl⟩ | rfl) ?_
  refine WpO.callP [0] (by simp) rfl (by simp -implicitDefEqProofs [hw, hn', hn2] <;> rfl) (by simp -implicitDefEqProofs [hw, hn', hn2] <;> rfl) call_59 (by simp) (by simp) (by simp) (by simp -implicitDefEqProofs [hw, hn', hn2]) (by simp; rfl) (by simp -implicitDefEqProofs [hw, hn', hn2]) ( hc) fun r S1 hr => ?_
  obtain ⟨h, rfl, rfl, m1, m2, t1⟩ := hr
  refine ⟨_, by simp -implicitDefEqProofs [hw, hn', hn2] <;> rfl, ?_⟩
  refine WpO.nil ?_
  refine WpC.ret ?_
  refine ⟨.inr rfl, [], rfl, ?_, by simp⟩
  exact ⟨h, rfl, rfl, m1, m2, t1⟩
def lenS (y : Nat) : Nat := if y = 0 then 0 else y.log2 + 1
theorem len64s_ok (y : Nat) (hy : y < 256) : Gives Try.prog 69 [.d (.int .u64 y)] (.d (dI (lenS y))) := by
  have e1 : ¬ ((4294967296 : Int) ≤ (y : Int)) := by omega
  have e2 : ¬ ((65536 : Int) ≤ (y : Int)) := by omega
  have e3 : ¬ ((256 : Int) ≤ (y : Int)) := by omega
  have w3 : IntKind.u8.wrap (y : Int) = y := by simp [IntKind.wrap, IntKind.bits, IntKind.signed]; omega
  refine Gives.enter tabOk Try.func69 rfl (by show 1 ≤ 25; decide) ?_
  simp only [Try.f69]
  refine WpC.seq (WpC.ops tabOk (r := []) (by simp -implicitDefEqProofs [e1, e2, e3, w3, hy] <;> rfl) rfl ?_)
  refine WpC.seq ?_
  refine WpC.seq (WpC.ops tabOk (r := []) (by simp -implicitDefEqProofs [e1, e2, e3, w3, hy] <;> rfl) rfl ?_)
  refine WpC.condF (by simp -implicitDefEqProofs [e1, e2, e3, w3, hy] <;> rfl) ?_
  refine WpC.skip ?_
  refine WpC.seq ?_
  refine WpC.seq (WpC.ops tabOk (r := []) (by simp -implicitDefEqProofs [e1, e2, e3, w3, hy] <;> rfl) rfl ?_)
  refine WpC.condF (by simp -implicitDefEqProofs [e1, e2, e3, w3, hy] <;> rfl) ?_
  refine WpC.skip ?_
  refine WpC.seq ?_
  refine WpC.seq (WpC.ops tabOk (r := []) (by simp -implicitDefEqProofs [e1, e2, e3, w3, hy] <;> rfl) rfl ?_)
  refine WpC.condF (by simp -implicitDefEqProofs [e1, e2, e3, w3, hy] <;> rfl) ?_
  refine WpC.skip ?_
  generalize hS : ByteArray.mk _ = S
  have hs0 : ((List.range 256).all fun x => (S.data.toList[x]?).map UInt8.toNat == some (lenS x)) = true := by rw [← hS]; decide +kernel
  have hs1 := List.all_eq_true.1 hs0 y (List.mem_range.2 hy)
  rw [beq_iff_eq, Option.map_eq_some_iff] at hs1
  obtain ⟨b, hs2, hs3⟩ := hs1
  have hs2 : S.data[y]? = some b := by rw [← Array.getElem?_toList]; exact hs2
  have hb : b.toNat < 256 := b.toNat_lt
  have w4 : IntKind.i64.wrap (lenS y : Int) = (lenS y : Int) := wrapI (by omega) (by omega)
  refine WpC.seq (WpC.ops tabOk (r := []) (by simp -implicitDefEqProofs [e1, e2, e3, w3, hy, hs2, hs3, w4] <;> rfl) rfl ?_)
  refine WpC.ret ?_
  try simp only [blockQ, seqQ]
  refine retD_i (by simp -implicitDefEqProofs [e1, e2, e3, w3, hy, hs2, hs3, w4] <;> rfl) (by simp -implicitDefEqProofs [e1, e2, e3, w3, hy, hs2, hs3, w4] <;> rfl) ?_
  simp -implicitDefEqProofs [e1, e2, e3, w3, hy, hs2, hs3, w4]
theorem len_ok (y : Nat) (hy : y < 256) : Gives Try.prog 41 [.d (.int .u64 y)] (.d (dI (lenS y))) := by
  have hc := len64s_ok y hy
  have w1 : IntKind.u64.wrap (y : Int) = y := wrapU (by omega) (by omega)
  refine Gives.enter tabOk Try.func41 rfl (by show 1 ≤ 8; decide) ?_
  simp only [Try.f41]
  refine WpC.seq (WpC.ops tabOk (r := []) (by simp -implicitDefEqProofs [w1] <;> rfl) rfl ?_)
  refine WpC.seq ?_
  refine WpC.condF (by simp -implicitDefEqProofs [w1] <;> rfl) ?_
  refine WpC.skip ?_
  refine WpC.seq ?_
  refine WpC.region ?_
  refine WpO.run tabOk 1 (by simp -implicitDefEqProofs [w1] <;> first | exact ⟨rfl, rfl⟩ | rfl) ?_
  refine WpO.data (by simp) rfl (by simp -implicitDefEqProofs [w1] <;> rfl) (by simp -implicitDefEqProofs [w1] <;> rfl) (by simp -implicitDefEqProofs [w1] <;> rfl) call_69 (by simp) (hc) (by rfl) (by simp -implicitDefEqProofs [w1] <;> rfl) ?_
  refine WpO.run tabOk 1 (by simp -implicitDefEqProofs [w1] <;> first | exact ⟨rfl, rfl⟩ | rfl) ?_
  refine WpO.nil ?_
  refine WpC.ret ?_
  try simp only [blockQ, seqQ]
  refine retD_i (by simp -implicitDefEqProofs [w1] <;> rfl) (by simp -implicitDefEqProofs [w1] <;> rfl) ?_
  simp -implicitDefEqProofs [w1]
theorem sort_ok (g : Nat → Int) (n : Nat) (hn : n ≤ 12) :
    WpF Try.prog 26 [.sl 0 n] [.arr 3 1 (rowF g n)]
      fun r S => ∃ h, r = .tup [] ∧ S = [.arr 3 1 (rowF h n)] ∧ Mv 0 n g h ∧ Rch 0 n g h ∧ Srtd cI h 0 n := by
  have hc := pdq_ok g n (lenS n) hn
  have hl := len_ok n (by omega)
  have w1 : IntKind.u64.wrap (n : Int) = n := wrapU (by omega) (by omega)
  refine WpF.enter tabOk Try.func26 rfl (by show 1 ≤ 11; decide) ?_
  simp only [Try.f26]
  refine WpC.seq (WpC.ops tabOk (r := []) (by simp -implicitDefEqProofs [w1] <;> rfl) rfl ?_)
  refine WpC.region ?_
  refine WpO.run tabOk 4 (by simp -implicitDefEqProofs [w1] <;> first | exact ⟨rfl, rfl⟩ | rfl) ?_
  refine WpO.data (by simp) rfl (by simp -implicitDefEqProofs [w1] <;> rfl) (by simp -implicitDefEqProofs [w1] <;> rfl) (by simp -implicitDefEqProofs [w1] <;> rfl) call_41 (by simp) (hl) (by rfl) (by simp -implicitDefEqProofs [w1] <;> rfl) ?_
  refine WpO.callP [0] (by simp) rfl (by simp -implicitDefEqProofs [w1] <;> rfl) (by simp -implicitDefEqProofs [w1] <;> rfl) call_40 (by simp) (by simp) (by simp) (by simp -implicitDefEqProofs [w1]) (by simp; rfl) (by simp -implicitDefEqProofs [w1]) ( hc) fun r S1 hr => ?_
  obtain ⟨h, rfl, rfl, m1, m2, t1⟩ := hr
  refine ⟨_, by simp -implicitDefEqProofs [w1] <;> rfl, ?_⟩
  refine WpO.nil ?_
  refine ⟨.inl rfl, [], rfl, ?_, by simp⟩
  exact ⟨h, rfl, rfl, m1, m2, t1⟩
end Go.Proofs.Ytaobnhenjldjeaa.Pay
/- The end of a row is cleared. No statement of the seed is proved here. -/
namespace Go.Proofs.Ytaobnhenjldjeaa.Pay
open Go Go.RowKit
set_option linter.unusedVariables false
set_option linter.unusedSimpArgs false
set_option linter.unusedSectionVars false

section
variable {P : Program} {T : Nat → Option TI} {w w' : World} {I : Nat → Prop} {L : List Lay} {s s' : St} {a : Act} {all : Array Oper} {o : Oper} {rest : List Oper} {Q : Exit → St → Prop}
theorem drelR_rep {x : D} {v c : Value} (h : DRel w I x v) (hc : v.cells = #[c]) : ∀ n : Nat, DRelR w I 1 (List.replicate n x) (List.replicate n c)
  | 0 => by simp [DRelR]
  | n + 1 => by
    rw [List.replicate_succ, List.replicate_succ]
    simp only [DRelR]
    exact ⟨v, List.replicate n c, by rw [hc]; rfl, by rw [hc]; rfl, h, drelR_rep h hc n⟩
theorem OpOk.clear (hT : TabOk P T) {t e : TypeId} {i ei : TI} {x : Operand} {id off n : Nat} {xs : List D} {o : Oper} (ho : o.op = .call { callee := .builtin .clear, args := #[x], argTypes := #[t] }) (hx : evX s x = some (.so id 1 off n)) (hi : T t = some i) (hk : i.kind = .slice e) (hei : T e = some ei) (h1 : ei.size = 1)
    (hS : s.S[id]? = some (.arr e 1 xs)) (hn : 0 < n) (hl : off + n = xs.length) (hset : setS { s with S := s.S.set id (.arr e 1 (xs.take off ++ List.replicate n ei.zeroD)) } o.dst (.tup []) = some s') : OpOk P o s s' := fun w I L a hs => by
  have hI := (hT _ _ hi).kind
  rw [hk] at hI
  simp only [TKOk] at hI
  obtain ⟨z, v, hz, hzr, hvc, hvs⟩ := zeroD_ok (w := w) (I := I) (hT _ _ hei) (.inr h1)
  rw [h1] at hvs
  obtain ⟨c, hc⟩ : ∃ c, v.cells = #[c] := by
    obtain ⟨l, hl⟩ : ∃ l, v.cells = Array.mk l := ⟨v.cells.toList, by simp⟩
    rw [hl] at hvs ⊢
    match l, hvs with
    | [c], _ => exact ⟨c, rfl⟩
  have hus := drelR_rep hzr hc n
  have hone := hus.ones
  have hvx := hs.evX hx
  simp only [VRel] at hvx
  obtain ⟨l, hd, cc, hl', hvx, hle, hxx⟩ := hvx
  rcases hxx with h0 | ⟨b, cap, rfl, rfl, hcap⟩
  · omega
  rcases hs.obs _ _ _ hS hl' with ⟨base, cp, vs, he, hown, hr⟩ | ⟨hd', he, _⟩
  rotate_left
  · cases he
  cases he
  obtain ⟨cur, hcur, hfit, hown'⟩ := ownsRow_put (p := off) (m := n) (us := List.replicate n c) hown (by omega) (by omega) (by simp)
  have hst := run_storeCells_at P b (off * 1) e (List.replicate n c) 0 cur w hcur (by simpa using hfit) hone
  generalize hw' : w.setRow b (cur.toList.take (off * 1) ++ List.replicate n c ++ cur.toList.drop (off * 1 + (List.replicate n c).length)).toArray = w' at *
  have hkeep : ∀ j, j < w.heap.size → j ∉ own (.arr e 1 xs) (.a (some b) cap) → w'.heap[j]? = w.heap[j]? := fun j _ hj => by
    rw [← hw']; exact setRow_other w b j _ (by simpa [own] using hj)
  have hII : ∀ j, I j → w'.heap[j]? = w.heap[j]? := fun j hj => hkeep j (hs.imm j hj) fun hb' => (hs.sep j (owns_mem hS hl' j hb')).1 hj
  have hs1 : w'.heap.size = w.heap.size := by rw [← hw']; simp
  have hvl := hr.length
  have hlen' : (xs.take off ++ List.replicate n ei.zeroD).length = max xs.length (off + n) := by
    simp only [List.length_append, List.length_take, List.length_replicate]
    omega
  have hor : ORel w' I L (.arr e 1 (xs.take off ++ List.replicate n ei.zeroD)) (.a (some b) cap) := by
    refine .inl ⟨some b, cap, vs.take (off * 1) ++ List.replicate n c ++ vs.drop ((off + n) * 1), rfl, ?_, ?_⟩
    · rw [hlen']; exact hown'
    · have hnil : vs.drop ((off + n) * 1) = [] := List.drop_eq_nil_of_le (by omega)
      rw [hnil, List.append_nil]
      exact DRelR.mono hII (fun _ h => h) _ _ _ ((hr.take off).append hus)
  have hzc : (Builtin.zeroCells z.cells n).toList = List.replicate n c := by
    rw [← hvc, hc]
    simp [Builtin.zeroCells]
    apply List.ext_getElem
    · simp
    · intro i h1 h2
      simp [Nat.mod_one]
  have h2 := hs.upd hS hl' (own_arr _ _ _ _ _) hkeep hs1 hor
  have h3 := Step.upd (I := I) hS hl' (own_arr e 1 (xs.take off ++ List.replicate n ei.zeroD) xs (.a (some b) cap)) hkeep hs1 (by rw [← hw']; rfl) (by rw [← hw']; rfl) (by rw [← hw']; rfl)
  obtain ⟨r4, r5⟩ := put_step (v := .tuple #[]) h2 h3 (by simp only [VRel, VRelL]; exact ⟨[], rfl, rfl⟩) hset
  refine ⟨_, w', I, L, _, ?_, .inl rfl, r4, r5⟩
  obtain ⟨m, rfl⟩ : ∃ m, n = m + 1 := ⟨n - 1, by omega⟩
  have hrun : (Builtin.clear_ #[t] o.type #[.slice (some ⟨b, off * 1, none⟩) (m + 1) cc]).run P w = .ok (.tuple #[]) w' := by
    simp [Builtin.clear_, run_underlying hI, hz, hzc]
    simp at hst
    rw [hst]; rfl
  unfold execOp
  simp only [ho, resolve, invoke, builtin, Sem.run_bind, Sem.run_pure, Result.andThen_ok, List.map_toArray, List.map_cons, List.map_nil, hvx, hrun]
end
end Go.Proofs.Ytaobnhenjldjeaa.Pay
/- slices.Compact of a row of numbers that rise. No statement of the seed is proved here. -/
namespace Go.Proofs.Ytaobnhenjldjeaa.Pay
open Go Go.RowKit
set_option linter.unusedVariables false
set_option linter.unusedSimpArgs false
set_option linter.unusedSectionVars false

/-- The first m numbers of h rise, and are just those of g's first n. -/
structure Kept (g h : Nat → Int) (n m : Nat) : Prop where
  up : ∀ i j, i < j → j < m → h i < h j
  all : ∀ i, i < n → ∃ j, j < m ∧ h j = g i
  some : ∀ j, j < m → ∃ i, i < n ∧ h j = g i
theorem Kept.none (g : Nat → Int) : Kept g g 0 0 := ⟨fun _ _ _ h => by omega, fun _ h => by omega, fun _ h => by omega⟩
theorem Kept.first {g : Nat → Int} {n k : Nat} (hs : Srtd cI g 0 n) (hk : k ≤ n) (hne : ∀ i, 0 < i → i < k → g i ≠ g (i - 1)) : Kept g g k k := by
  refine ⟨fun i j hij hj => ?_, fun i hi => ⟨i, hi, rfl⟩, fun i hi => ⟨i, hi, rfl⟩⟩
  have h1 : g (j - 1) < g j := by
    have h2 := hs (j - 1) j (Nat.zero_le _) (by omega) (by omega)
    rw [cI_lt] at h2
    have h3 := hne j (by omega) hj
    omega
  by_cases e : i = j - 1
  · rw [e]; exact h1
  · have h2 := hs i (j - 1) (Nat.zero_le _) (by omega) (by omega)
    rw [cI_lt] at h2
    omega
theorem Kept.same {g h : Nat → Int} {n m : Nat} (k : Kept g h n m) (hm : 0 < m) (hl : h (m - 1) = g (n - 1)) (he : g n = g (n - 1)) : Kept g h (n + 1) m :=
  ⟨k.up, fun i hi => by
    by_cases e : i = n
    · exact ⟨m - 1, by omega, by rw [e, he, hl]⟩
    · exact k.all i (by omega), fun j hj => by
    obtain ⟨i, hi, e⟩ := k.some j hj
    exact ⟨i, by omega, e⟩⟩
theorem Kept.next {g h : Nat → Int} {n m : Nat} (k : Kept g h n m) (hm : 0 < m) (hl : h (m - 1) = g (n - 1)) (he : g (n - 1) < g n) : Kept g (upd h m (g n)) (n + 1) (m + 1) := by
  have hu : ∀ i, i < m → upd h m (g n) i = h i := fun i hi => if_neg (by omega)
  have hm' : upd h m (g n) m = g n := if_pos rfl
  refine ⟨fun i j hij hj => ?_, fun i hi => ?_, fun j hj => ?_⟩
  · by_cases e : j = m
    · subst e
      rw [hm', hu i hij]
      by_cases e2 : i = j - 1
      · rw [e2, hl]; exact he
      · have := k.up i (j - 1) (by omega) (by omega)
        omega
    · rw [hu i (by omega), hu j (by omega)]; exact k.up i j hij (by omega)
  · by_cases e : i = n
    · exact ⟨m, by omega, by rw [hm', e]⟩
    · obtain ⟨j, hj, e2⟩ := k.all i (by omega)
      exact ⟨j, by omega, by rw [hu j hj, e2]⟩
  · by_cases e : j = m
    · exact ⟨n, by omega, by rw [e, hm']⟩
    · obtain ⟨i, hi, e2⟩ := k.some j (by omega)
      exact ⟨i, by omega, by rw [hu j (by omega), e2]⟩
theorem Kept.cut {g h : Nat → Int} {n m : Nat} (k : Kept g h n m) : Kept g (pk h m) n m := by
  have hp : ∀ i, i < m → pk h m i = h i := fun i hi => if_pos hi
  refine ⟨fun i j hij hj => ?_, fun i hi => ?_, fun j hj => ?_⟩
  · rw [hp i (by omega), hp j hj]; exact k.up i j hij hj
  · obtain ⟨j, hj, e⟩ := k.all i hi
    exact ⟨j, hj, by rw [hp j hj, e]⟩
  · obtain ⟨i, hi, e⟩ := k.some j hj
    exact ⟨i, hi, by rw [hp j hj, e]⟩
theorem row_cut (h : Nat → Int) {k n : Nat} (hk : k ≤ n) : (rowF h n).take k ++ List.replicate (n - k) (D.int .i64 0) = rowF (pk h k) n := by
  apply List.ext_getElem?
  intro i
  by_cases hi : i < n
  · rw [rowF_get hi]
    by_cases h1 : i < k
    · rw [List.getElem?_append_left (by simp; omega), List.getElem?_take_of_lt h1, rowF_get hi]; simp [pk, h1]
    · rw [List.getElem?_append_right (by simp; omega), List.getElem?_replicate, if_pos (by simp; omega)]; simp [pk, h1]
  · rw [List.getElem?_eq_none (by simp; omega), List.getElem?_eq_none (by simp; omega)]

set_option maxHeartbeats 4000000 in
theorem compact_ok (g : Nat → Int) (n : Nat) (hn : n ≤ 12) (hs : Srtd cI g 0 n) :
    WpF Try.prog 27 [.sl 0 n] [.arr 3 1 (rowF g n)]
      fun r S => ∃ h m, m ≤ n ∧ r = .sl 0 m ∧ S = [.arr 3 1 (rowF h n)] ∧ Kept g h n m := by
  refine WpF.enter tabOk Try.func27 rfl (by show 1 ≤ 61; decide) ?_
  simp only [Try.f27]
  refine WpC.seq (WpC.ops tabOk (r := []) (by simp -implicitDefEqProofs <;> rfl) rfl ?_)
  refine WpC.seq ?_
  refine WpC.seq (WpC.ops tabOk (r := []) (by simp -implicitDefEqProofs <;> rfl) rfl ?_)
  refine WpC.condD ((n : Int) < 2) (by simp -implicitDefEqProofs) (fun d8 => ?_) (fun d8 => ?_)
  · refine WpC.seq (WpC.ops tabOk (r := []) (by simp -implicitDefEqProofs [d8] <;> rfl) rfl ?_)
    refine WpC.ret ?_
    refine ⟨.inr rfl, _, by simp -implicitDefEqProofs <;> rfl, ?_, by simp⟩
    exact ⟨g, n, Nat.le_refl _, rfl, rfl, Kept.first hs (Nat.le_refl _) fun i q1 q2 => by omega⟩
  · have hn2 : 2 ≤ n := by omega
    refine WpC.skip ?_
    refine WpC.seq ?_
    refine WpC.seq (WpC.ops tabOk (r := []) (by simp -implicitDefEqProofs [d8] <;> rfl) rfl ?_)
    refine WpC.block ?_
    refine WpC.loopM [0] [3] (fun x => n - x) (1 : Nat) (fun x => [(3, .d (dI (x : Nat)))]) (fun x => [.arr 3 1 (rowF g n)]) (fun x => 1 ≤ x ∧ x ≤ n ∧ ∀ i, 0 < i → i < x → g i ≠ g (i - 1)) (by simp -implicitDefEqProofs [d8] <;> rfl) (Gh.cut' [3, 0] 1 (by simp -implicitDefEqProofs [d8]) (by simp -implicitDefEqProofs [d8]) rfl (by simp) (by simp) (by simp)) (⟨by simp, by omega, fun i h1 h2 => by omega⟩) ?_
    rintro x hi
    simp only [List.cons_append, List.nil_append]
    refine WpC.seq ?_
    refine WpC.seq (WpC.ops tabOk (r := []) (by simp -implicitDefEqProofs [d8] <;> rfl) rfl ?_)
    refine WpC.condR (by simp -implicitDefEqProofs [d8] <;> rfl) (by rfl) (fun c13 => ?_) (fun c13 => ?_)
    · have c13' := c13; first | simp only [dT, dF] at c13' | try simp at c13'
      have hxn : x < n := by simpa using c13
      obtain ⟨p, hp⟩ : ∃ p, x = p + 1 := ⟨x - 1, by omega⟩
      subst hp
      have hpq : p + 1 - 1 = p := by omega
      have hw1 : IntKind.i64.wrap (((p + 1 : Nat) : Int) - 1) = (p : Int) := by rw [wrapI (by omega) (by omega)]; omega
      have hw2 : IntKind.i64.wrap ((p : Int)) = (p : Int) := wrapI (by omega) (by omega)
      have hw3 : IntKind.i64.wrap ((p : Int) + 1 + 1) = (p : Int) + 2 := by rw [wrapI (by omega) (by omega)]; omega
      have hpn : p < n := by omega
      have hp0 : p + 1 < n := by omega
      have hp5 : p + 1 ≤ n := by omega
      have hp1 : (p : Int) + 1 < n := by omega
      have hp2 : (0 : Int) ≤ (p : Int) + 1 := by omega
      have hp3 : (p : Int) + 1 ≤ n := by omega
      refine WpC.skip ?_
      refine WpC.seq ?_
      refine WpC.block ?_
      refine WpC.seq (WpC.drawn tabOk (by kernel_rfl) 0 (by simp) ?_)
      refine DrO.run (fz := []) 3 (by simp -implicitDefEqProofs [d8, c13, hpq, hp0, hp5, hw1, hw2, hw3, hpn, hp1, hp2, hp3] <;> first | exact ⟨rfl, rfl, rfl, rfl⟩ | rfl) ?_
      refine DrO.run (fz := []) 3 (by simp -implicitDefEqProofs [d8, c13, hpq, hp0, hp5, hw1, hw2, hw3, hpn, hp1, hp2, hp3] <;> first | exact ⟨rfl, rfl, rfl, rfl⟩ | rfl) ?_
      refine DrO.run (fz := []) 3 (by simp -implicitDefEqProofs [d8, c13, hpq, hp0, hp5, hw1, hw2, hw3, hpn, hp1, hp2, hp3] <;> first | exact ⟨rfl, rfl, rfl, rfl⟩ | rfl) ?_
      refine DrO.run (fz := []) 1 (by simp -implicitDefEqProofs [d8, c13, hpq, hp0, hp5, hw1, hw2, hw3, hpn, hp1, hp2, hp3] <;> first | exact ⟨rfl, rfl, rfl, rfl⟩ | rfl) ?_
      refine DrO.nil ⟨by kernel_rfl, ?_⟩
      refine WpC.condD (g (p + 1) = g p) (by simp -implicitDefEqProofs [d8, c13, hpq, hp0, hp5, hw1, hw2, hw3, hpn, hp1, hp2, hp3]) (fun d25 => ?_) (fun d25 => ?_)
      · have hk0 := (Kept.first hs (show p + 1 ≤ n by omega) hi.2.2).same (Nat.succ_pos p) rfl (show g (p + 1) = g (p + 1 - 1) by rw [hpq]; exact d25)
        refine WpC.seq (WpC.ops tabOk (r := []) (by simp -implicitDefEqProofs [d8, c13, hpq, hp0, hp5, hw1, hw2, hw3, hpn, hp1, hp2, hp3, d25] <;> rfl) rfl ?_)
        refine WpC.seq ?_
        refine WpC.seq (WpC.ops tabOk (r := []) (by simp -implicitDefEqProofs [d8, c13, hpq, hp0, hp5, hw1, hw2, hw3, hpn, hp1, hp2, hp3, d25] <;> rfl) rfl ?_)
        refine WpC.block ?_
        refine WpC.loopM [0, 4] [3, 5] (fun y => n - y.1) ((1, p + 1, g) : Nat × Nat × (Nat → Int)) (fun y => [(3, .d (dI (y.2.1 : Nat))), (5, .d (dI (y.1 : Nat)))]) (fun y => [.arr 3 1 (rowF y.2.2 n)]) (fun y => 1 ≤ y.1 ∧ p + 1 + y.1 ≤ n ∧ y.2.1 ≤ p + y.1 ∧ 0 < y.2.1 ∧ y.2.2 (y.2.1 - 1) = g (p + y.1) ∧ (∀ i, p + y.1 ≤ i → y.2.2 i = g i) ∧ Kept g y.2.2 (p + 1 + y.1) y.2.1) (by simp -implicitDefEqProofs [d8, c13, hpq, hp0, hp5, hw1, hw2, hw3, hpn, hp1, hp2, hp3, d25] <;> rfl) (Gh.cut' [3, 5, 0, 4] 1 (by simp -implicitDefEqProofs [d8, c13, hpq, hp0, hp5, hw1, hw2, hw3, hpn, hp1, hp2, hp3, d25]) (by simp -implicitDefEqProofs [d8, c13, hpq, hp0, hp5, hw1, hw2, hw3, hpn, hp1, hp2, hp3, d25]) rfl (by simp) (by simp) (by simp)) (⟨by simp, by simp; omega, by simp, by simp, d25.symm, fun i _ => rfl, hk0⟩) ?_
        rintro y hi
        simp only [List.cons_append, List.nil_append]
        obtain ⟨c, k, h⟩ := y
        obtain ⟨i1, i2, i3, i4, i5, i6, i7⟩ := hi
        simp only at i1 i2 i3 i4 i5 i6 i7 ⊢
        refine WpC.seq ?_
        refine WpC.seq (WpC.ops tabOk (r := []) (by simp -implicitDefEqProofs [d8, c13, hpq, hp0, hp5, hw1, hw2, hw3, hpn, hp1, hp2, hp3, d25] <;> rfl) rfl ?_)
        refine WpC.condR (by simp -implicitDefEqProofs [d8, c13, hpq, hp0, hp5, hw1, hw2, hw3, hpn, hp1, hp2, hp3, d25] <;> rfl) (by rfl) (fun c32 => ?_) (fun c32 => ?_)
        · have c32' := c32; first | simp only [dT, dF] at c32' | try simp at c32'
          have hcn : c < n - (p + 1) := by simpa using c32
          obtain ⟨c1, hc1⟩ : ∃ c1, c = c1 + 1 := ⟨c - 1, by omega⟩
          subst hc1
          have v1 : IntKind.i64.wrap ((c1 : Int)) = (c1 : Int) := wrapI (by omega) (by omega)
          have v2 : IntKind.i64.wrap ((c1 : Int) + 1 + 1) = (c1 : Int) + 1 + 1 := wrapI (by omega) (by omega)
          have v3 : IntKind.i64.wrap ((k : Int) + 1) = (k : Int) + 1 := wrapI (by omega) (by omega)
          have v4 : c1 < n - (p + 1) := by omega
          have v5 : (0 : Int) ≤ (c1 : Int) + 1 := by omega
          have v6 : (c1 : Int) + 1 < ((n - (p + 1) : Nat) : Int) := by omega
          have v7 : c1 + 1 < n - (p + 1) := by omega
          have v8 : p + 1 + (c1 + 1) < n := by omega
          have v9 : p + 1 + c1 < n := by omega
          have v10 : k < n := by omega
          have v11 : h (p + 1 + (c1 + 1)) = g (p + 1 + (c1 + 1)) := i6 _ (by omega)
          have v12 : h (p + 1 + c1) = g (p + 1 + c1) := i6 _ (by omega)
          refine WpC.skip ?_
          refine WpC.seq ?_
          refine WpC.block ?_
          refine WpC.seq (WpC.drawn tabOk (by kernel_rfl) 0 (by simp) ?_)
          refine DrO.run (fz := []) 3 (by simp -implicitDefEqProofs [d8, c13, hpq, hp0, hp5, hw1, hw2, hw3, hpn, hp1, hp2, hp3, d25, c32, v1, v2, v3, v4, v5, v6, v7, v8, v9, v10, v11, v12] <;> first | exact ⟨rfl, rfl, rfl, rfl⟩ | rfl) ?_
          refine DrO.run (fz := []) 3 (by simp -implicitDefEqProofs [d8, c13, hpq, hp0, hp5, hw1, hw2, hw3, hpn, hp1, hp2, hp3, d25, c32, v1, v2, v3, v4, v5, v6, v7, v8, v9, v10, v11, v12] <;> first | exact ⟨rfl, rfl, rfl, rfl⟩ | rfl) ?_
          refine DrO.run (fz := []) 3 (by simp -implicitDefEqProofs [d8, c13, hpq, hp0, hp5, hw1, hw2, hw3, hpn, hp1, hp2, hp3, d25, c32, v1, v2, v3, v4, v5, v6, v7, v8, v9, v10, v11, v12] <;> first | exact ⟨rfl, rfl, rfl, rfl⟩ | rfl) ?_
          refine DrO.run (fz := []) 1 (by simp -implicitDefEqProofs [d8, c13, hpq, hp0, hp5, hw1, hw2, hw3, hpn, hp1, hp2, hp3, d25, c32, v1, v2, v3, v4, v5, v6, v7, v8, v9, v10, v11, v12] <;> first | exact ⟨rfl, rfl, rfl, rfl⟩ | rfl) ?_
          refine DrO.nil ⟨by kernel_rfl, ?_⟩
          refine WpC.condD (g (p + 1 + (c1 + 1)) ≠ g (p + 1 + c1)) (by simp -implicitDefEqProofs [d8, c13, hpq, hp0, hp5, hw1, hw2, hw3, hpn, hp1, hp2, hp3, d25, c32, v1, v2, v3, v4, v5, v6, v7, v8, v9, v10, v11, v12]) (fun d44 => ?_) (fun d44 => ?_)
          · have hlt : g (p + 1 + (c1 + 1) - 1) < g (p + 1 + (c1 + 1)) := by
              have q := hs (p + 1 + c1) (p + 1 + (c1 + 1)) (Nat.zero_le _) (by omega) (by omega)
              rw [cI_lt] at q
              rw [show p + 1 + (c1 + 1) - 1 = p + 1 + c1 by omega]
              omega
            have hpe : p + (c1 + 1) = p + 1 + (c1 + 1) - 1 := by omega
            have hke := i7.next i4 (by rw [i5, hpe]) hlt
            have hu1 : upd h k (g (p + 1 + (c1 + 1))) (k + 1 - 1) = g (p + (c1 + 1 + 1)) := by rw [show k + 1 - 1 = k by omega, show p + (c1 + 1 + 1) = p + 1 + (c1 + 1) by omega]; exact if_pos rfl
            have hu2 : ∀ i, p + (c1 + 1 + 1) ≤ i → upd h k (g (p + 1 + (c1 + 1))) i = g i := fun i q => (if_neg (by omega)).trans (i6 i (by omega))
            refine WpC.seq (WpC.ops tabOk (r := []) (by simp -implicitDefEqProofs [d8, c13, hpq, hp0, hp5, hw1, hw2, hw3, hpn, hp1, hp2, hp3, d25, c32, v1, v2, v3, v4, v5, v6, v7, v8, v9, v10, v11, v12, d44] <;> rfl) rfl ?_)
            refine WpC.ops tabOk (r := []) (by simp -implicitDefEqProofs [d8, c13, hpq, hp0, hp5, hw1, hw2, hw3, hpn, hp1, hp2, hp3, d25, c32, v1, v2, v3, v4, v5, v6, v7, v8, v9, v10, v11, v12, d44] <;> rfl) rfl ?_
            refine WpC.ops tabOk (r := []) (by simp -implicitDefEqProofs [d8, c13, hpq, hp0, hp5, hw1, hw2, hw3, hpn, hp1, hp2, hp3, d25, c32, v1, v2, v3, v4, v5, v6, v7, v8, v9, v10, v11, v12, d44] <;> rfl) rfl ?_
            exact ⟨(c1 + 1 + 1, k + 1, upd h k (g (p + 1 + (c1 + 1)))), ⟨by simp, by simp; omega, by simp; omega, by simp, hu1, hu2, hke⟩, by simp; omega, Gh.cut' [3, 5, 0, 4] 1 (by simp -implicitDefEqProofs [d8, c13, hpq, hp0, hp5, hw1, hw2, hw3, hpn, hp1, hp2, hp3, d25, c32, v1, v2, v3, v4, v5, v6, v7, v8, v9, v10, v11, v12, d44, c13', c32']) (by simp -implicitDefEqProofs [d8, c13, hpq, hp0, hp5, hw1, hw2, hw3, hpn, hp1, hp2, hp3, d25, c32, v1, v2, v3, v4, v5, v6, v7, v8, v9, v10, v11, v12, d44, c13', c32']) rfl (by simp) (by simp) (by simp)⟩
          · have hee : g (p + 1 + (c1 + 1)) = g (p + 1 + c1) := Classical.not_not.1 d44
            have hpe : p + (c1 + 1) = p + 1 + (c1 + 1) - 1 := by omega
            have hke := i7.same i4 (by rw [i5, hpe]) (by rw [show p + 1 + (c1 + 1) - 1 = p + 1 + c1 by omega]; exact hee)
            have hu1 : h (k - 1) = g (p + (c1 + 1 + 1)) := by rw [i5, show p + (c1 + 1 + 1) = p + 1 + (c1 + 1) by omega, hee, show p + (c1 + 1) = p + 1 + c1 by omega]
            refine WpC.skip ?_
            refine WpC.ops tabOk (r := []) (by simp -implicitDefEqProofs [d8, c13, hpq, hp0, hp5, hw1, hw2, hw3, hpn, hp1, hp2, hp3, d25, c32, v1, v2, v3, v4, v5, v6, v7, v8, v9, v10, v11, v12, d44] <;> rfl) rfl ?_
            exact ⟨(c1 + 1 + 1, k, h), ⟨by simp, by simp; omega, by simp; omega, i4, hu1, fun i q => i6 i (by simp at q; omega), hke⟩, by simp; omega, Gh.cut' [3, 5, 0, 4] 1 (by simp -implicitDefEqProofs [d8, c13, hpq, hp0, hp5, hw1, hw2, hw3, hpn, hp1, hp2, hp3, d25, c32, v1, v2, v3, v4, v5, v6, v7, v8, v9, v10, v11, v12, d44, c13', c32']) (by simp -implicitDefEqProofs [d8, c13, hpq, hp0, hp5, hw1, hw2, hw3, hpn, hp1, hp2, hp3, d25, c32, v1, v2, v3, v4, v5, v6, v7, v8, v9, v10, v11, v12, d44, c13', c32']) rfl (by simp) (by simp) (by simp)⟩
        · have c32' := c32; first | simp only [dT, dF] at c32' | try simp at c32'
          refine WpC.exit ?_
          refine WpC.seq ?_
          have hcn : ¬ c < n - (p + 1) := by simpa using c32
          have hcn2 : p + 1 + c = n := by omega
          have hkn : k ≤ n := by omega
          have hkn2 : (k : Int) ≤ n := by omega
          have hrc := row_cut h hkn
          rw [hcn2] at i7
          have hke := i7.cut
          refine WpC.region ?_
          refine WpO.run tabOk 3 (by simp -implicitDefEqProofs [hkn, hkn2] <;> first | exact ⟨rfl, rfl⟩ | rfl) ?_
          refine WpO.step (by simp) (OpOk.clear (id := 0) (off := k) (n := n - k) (xs := rowF h n) tabOk rfl (by simp) tab_24 rfl tab_3 rfl (by simp) (by omega) (by simp; omega) (by simp; rfl)) ?_
          refine WpO.nil ?_
          refine WpC.seq (WpC.ops tabOk (r := []) (by simp -implicitDefEqProofs [d8, c13, hpq, hp0, hp5, hw1, hw2, hw3, hpn, hp1, hp2, hp3, d25, c32, hkn, hkn2, hrc] <;> rfl) rfl ?_)
          refine WpC.ret ?_
          refine ⟨.inr rfl, _, by simp -implicitDefEqProofs <;> rfl, ?_, by simp⟩
          exact ⟨pk h k, k, hkn, rfl, by simp [← hrc], hke⟩
      · refine WpC.skip ?_
        refine WpC.ops tabOk (r := []) (by simp -implicitDefEqProofs [d8, c13, hpq, hp0, hp5, hw1, hw2, hw3, hpn, hp1, hp2, hp3, d25] <;> rfl) rfl ?_
        exact ⟨p + 2, ⟨by omega, by omega, fun i h1 h2 => by rcases Nat.lt_or_ge i (p + 1) with q | q; exact hi.2.2 i h1 q; rw [show i = p + 1 by omega, hpq]; exact d25⟩, by omega, Gh.cut' [3, 0] 1 (by simp -implicitDefEqProofs [d8, c13, hpq, hp0, hp5, hw1, hw2, hw3, hpn, hp1, hp2, hp3, d25, c13']) (by simp -implicitDefEqProofs [d8, c13, hpq, hp0, hp5, hw1, hw2, hw3, hpn, hp1, hp2, hp3, d25, c13']) rfl (by simp) (by simp) (by simp)⟩
    · have c13' := c13; first | simp only [dT, dF] at c13' | try simp at c13'
      refine WpC.exit ?_
      refine WpC.seq (WpC.ops tabOk (r := []) (by simp -implicitDefEqProofs [d8, c13] <;> rfl) rfl ?_)
      have hxn : x = n := by simp at c13; omega
      refine WpC.ret ?_
      refine ⟨.inr rfl, _, by simp -implicitDefEqProofs <;> rfl, ?_, by simp⟩
      exact ⟨g, n, Nat.le_refl _, rfl, rfl, Kept.first hs (Nat.le_refl _) (hxn ▸ hi.2.2)⟩
end Go.Proofs.Ytaobnhenjldjeaa.Pay
/- What is so of parts, of weights that are alike, or turned. No statement of the seed is proved here. -/
namespace Go.Proofs.Ytaobnhenjldjeaa.Pay
open Go Go.RowKit
set_option linter.unusedVariables false
set_option linter.unusedSimpArgs false
set_option linter.unusedSectionVars false

/-- The part at place i of n that are alike. -/
def evF (t n i : Nat) : Nat := t / n + if i < t % n then 1 else 0
theorem sumN_congr {f g : Nat → Nat} {n : Nat} (h : ∀ i, i < n → f i = g i) : sumN f n = sumN g n :=
  Nat.le_antisymm (sumN_le fun i hi => Nat.le_of_eq (h i hi)) (sumN_le fun i hi => Nat.le_of_eq (h i hi).symm)
theorem countP_same {α : Type} {P Q : α → Bool} {l : List α} (h : ∀ x ∈ l, (P x = true ↔ Q x = true)) : l.countP P = l.countP Q :=
  Nat.le_antisymm (countP_le_of fun x hx => (h x hx).1) (countP_le_of fun x hx => (h x hx).2)
theorem pt_even {t s n c i : Nat} {w : Nat → Nat} (hw : ∀ j, j < n → w j = c) (hc : 0 < c) (hs : s = n * c) (hi : i < n) : ptN t s n w i = evF t n i := by
  have hn : 0 < n := by omega
  have hq : t * c / s = t / n := by rw [hs, Nat.mul_div_mul_right _ _ hc]
  have hsum : sumN (fun i => t * w i / s) n = n * (t / n) := by
    rw [sumN_congr (g := fun _ => t / n) fun j hj => by rw [hw j hj, hq], sumN_const]
  have ha : ahead (cS t s (fun i => (w i : Int)) (fun i => ((t * w i / s : Nat) : Int))) n i = i := by
    refine Eq.trans ?_ (countP_lt n i (Nat.le_of_lt hi))
    unfold ahead
    refine countP_same fun j hj => ?_
    have hj := List.mem_range.1 hj
    rw [decide_eq_true_iff, decide_eq_true_iff, cS_key t s w _ (fun _ => rfl) _ _ (fun _ => rfl) (fun _ => rfl), hw j hj, hw i hi]
    omega
  unfold ptN evF
  rw [ha, hsum, hw i hi, hq]
  have := Nat.div_add_mod t n
  have e2 : t - n * (t / n) = t % n := by omega
  rw [e2]
theorem sum_rep (c : Int) : ∀ n : Nat, (List.replicate n c).sum = n * c
  | 0 => by simp
  | n + 1 => by rw [List.replicate_succ, List.sum_cons, sum_rep c n, Int.natCast_add, Int.add_mul]; omega
theorem spE_ok {T : Int} {ws : List Int} (h1 : ws.length ≤ 60) (h2 : 0 ≤ T) (h3 : ∀ x ∈ ws, 0 ≤ x) : spE T ws = if 9223372036854775807 < ws.sum then 3 else if ws.sum = 0 then 4 else 0 := by
  have e : (ws.any fun w => decide (w < 0)) = false := by
    rw [List.any_eq_false]
    intro x hx
    have := h3 x hx
    simp; omega
  unfold spE sumB
  rw [if_neg (by omega), e, if_neg (by simp; omega)]
  by_cases h : ws.sum ≤ 9223372036854775807
  · rw [if_neg (by simp; omega), if_neg (by omega : ¬ 9223372036854775807 < ws.sum)]
  · rw [if_pos (by simp; omega), if_pos (by omega)]
theorem even_pt {t n c : Nat} (hn : 1 ≤ n) (hn60 : n ≤ 60) (hc : 1 ≤ c) (hm : n * c ≤ 9223372036854775807) :
    spE (t : Int) (List.replicate n (c : Int)) = 0 ∧ spS (t : Int) (List.replicate n (c : Int)) = (List.range n).map fun i => (evF t n i : Int) := by
  have hsum : (List.replicate n (c : Int)).sum = ((n * c : Nat) : Int) := by rw [sum_rep, Int.natCast_mul]
  have hpos : 0 < n * c := Nat.mul_pos hn hc
  have h0 : spE (t : Int) (List.replicate n (c : Int)) = 0 := by
    rw [spE_ok (by simpa using hn60) (by omega) fun x hx => by rw [(List.mem_replicate.1 hx).2]; omega, hsum, if_neg (by omega), if_neg (by omega)]
  refine ⟨h0, ?_⟩
  have ha : Asked (t : Int) (List.replicate n (c : Int)) t (n * c) (fun i => if i < n then c else 0) := by
    refine ⟨by simpa using hn60, rfl, hsum, hpos, fun i => ?_, ?_, by omega⟩
    · unfold spW
      rw [List.getElem?_replicate]
      by_cases h : i < n
      · simp [h]
      · simp [h]
    · rw [List.length_replicate, sumN_congr (g := fun _ => c) fun i hi => if_pos hi, sumN_const]
  rw [spS_pt h0 ha, List.length_replicate]
  exact List.map_congr_left fun i hi => by
    have hi := List.mem_range.1 hi
    rw [pt_even (fun j hj => if_pos hj) hc rfl hi]
theorem evF_le {t n i j : Nat} (h : i ≤ j) : evF t n j ≤ evF t n i ∧ evF t n i ≤ evF t n j + 1 := by
  unfold evF
  constructor
  · split <;> split <;> omega
  · split <;> split <;> omega
theorem evF_mono {t u n i : Nat} (h : t ≤ u) : evF t n i ≤ evF u n i := by
  have h1 : t / n ≤ u / n := Nat.div_le_div_right h
  unfold evF
  by_cases he : t / n = u / n
  · have e1 := Nat.div_add_mod t n
    have e2 := Nat.div_add_mod u n
    rw [he] at e1 ⊢
    split <;> split <;> omega
  · split <;> split <;> omega

/-- Weights twice as great. -/
theorem pt_twice {t s n i : Nat} {w : Nat → Nat} : ptN t (2 * s) n (fun i => 2 * w i) i = ptN t s n w i := by
  have hq : ∀ i, t * (2 * w i) / (2 * s) = t * w i / s := fun i => by rw [Nat.mul_left_comm, Nat.mul_div_mul_left _ _ (by decide)]
  have hr : ∀ i, t * (2 * w i) % (2 * s) = 2 * (t * w i % s) := fun i => by rw [Nat.mul_left_comm, Nat.mul_mod_mul_left]
  have ha : ahead (cS t (2 * s : Nat) (fun i => ((2 * w i : Nat) : Int)) (fun i => ((t * (2 * w i) / (2 * s) : Nat) : Int))) n i = ahead (cS t s (fun i => (w i : Int)) (fun i => ((t * w i / s : Nat) : Int))) n i := by
    unfold ahead
    refine countP_same fun j hj => ?_
    rw [decide_eq_true_iff, decide_eq_true_iff, cS_key t (2 * s) (fun i => 2 * w i) _ (fun _ => rfl) _ _ (fun _ => rfl) (fun _ => rfl), cS_key t s w _ (fun _ => rfl) _ _ (fun _ => rfl) (fun _ => rfl), hr, hr]
    omega
  unfold ptN
  rw [ha]
  simp only [hq]
theorem asked_spS {T : Int} {ws : List Int} {t s : Nat} {w : Nat → Nat} (h : Asked T ws t s w) (h0 : ∀ x ∈ ws, 0 ≤ x) : spE T ws = 0 := by
  rw [spE_ok h.n60 (by rw [h.t_]; omega) h0]
  have h1 := h.s_
  have h2 := h.s0
  have h3 := h.sm
  rw [if_neg (by omega), if_neg (by omega)]
theorem twice_sp {T : Int} {ws : List Int} (h1 : ws.length ≤ 60) (hT : 0 ≤ T) (h : ∀ x ∈ ws, 0 ≤ x) (hs : 2 * ws.sum ≤ 9223372036854775807) : spE T (ws.map (2 * ·)) = spE T ws ∧ spS T (ws.map (2 * ·)) = spS T ws := by
  have hsum : (ws.map (2 * ·)).sum = 2 * ws.sum := by
    clear h1 h hs
    induction ws with
    | nil => rfl
    | cons x l ih => rw [List.map_cons, List.sum_cons, List.sum_cons, ih]; omega
  have h2 : ∀ x ∈ ws.map (2 * ·), 0 ≤ x := fun x hx => by
    obtain ⟨y, hy, rfl⟩ := List.mem_map.1 hx
    have := h y hy
    omega
  have hn := sum_nonneg h
  have e : spE T (ws.map (2 * ·)) = spE T ws := by
    rw [spE_ok (by simpa using h1) hT h2, spE_ok h1 hT h, hsum, if_neg (by omega : ¬ 9223372036854775807 < 2 * ws.sum), if_neg (by omega : ¬ 9223372036854775807 < ws.sum)]
    by_cases hz : ws.sum = 0
    · rw [if_pos (by omega), if_pos hz]
    · rw [if_neg (by omega), if_neg hz]
  refine ⟨e, ?_⟩
  by_cases h0 : spE T ws = 0
  · obtain ⟨t, s, w, ha⟩ := asked h0
    have hb : Asked T (ws.map (2 * ·)) t (2 * s) (fun i => 2 * w i) := by
      refine ⟨by simpa using h1, ha.t_, by rw [hsum, ha.s_]; omega, by have := ha.s0; omega, fun i => ?_, ?_, by have := ha.s_; omega⟩
      · have := ha.w_ i
        unfold spW at this ⊢
        rw [List.getElem?_map]
        cases hx : ws[i]? with
        | none => rw [hx] at this; simp at this ⊢; omega
        | some x => rw [hx] at this; simp at this ⊢; omega
      · rw [List.length_map]
        have : ∀ k, sumN (fun i => 2 * w i) k = 2 * sumN w k := fun k => by
          induction k with
          | zero => rfl
          | succ k ih => rw [sumN_step, sumN_step, ih]; omega
        rw [this, ha.sw]
    rw [spS_pt h0 ha, spS_pt (e.trans h0) hb, List.length_map]
    exact List.map_congr_left fun i _ => by rw [pt_twice]
  · unfold spS
    rw [e, if_neg h0, if_neg h0]

/-- A weight of 0 more, behind. -/
theorem more0 {T : Int} {ws : List Int} (h1 : ws.length ≤ 59) : spE T (ws ++ [0]) = spE T ws ∧ (spE T ws = 0 → spS T (ws ++ [0]) = spS T ws ++ [0]) := by
  have hsum : (ws ++ [(0 : Int)]).sum = ws.sum := by simp
  have e : spE T (ws ++ [0]) = spE T ws := by
    unfold spE sumB
    rw [hsum, if_neg (by simp; omega), if_neg (by omega : ¬ 60 < ws.length)]
    simp
  refine ⟨e, fun h0 => ?_⟩
  obtain ⟨t, s, w, ha⟩ := asked h0
  have hwn : w ws.length = 0 := by
    have := ha.w_ ws.length
    unfold spW at this
    rw [List.getElem?_eq_none (Nat.le_refl _)] at this
    simp at this; omega
  have hb : Asked T (ws ++ [0]) t s w := by
    refine ⟨by simp; omega, ha.t_, by rw [hsum, ha.s_], ha.s0, fun i => ?_, ?_, ha.sm⟩
    · rw [← ha.w_ i]
      unfold spW
      by_cases h : i < ws.length
      · rw [List.getElem?_append_left h]
      · rw [List.getElem?_append_right (by omega), List.getElem?_eq_none (by omega : ws.length ≤ i)]
        cases i - ws.length <;> rfl
    · rw [List.length_append, List.length_singleton, sumN_step, ha.sw, hwn]; omega
  rw [spS_pt h0 ha, spS_pt (e.trans h0) hb, List.length_append, List.length_singleton, List.range_succ, List.map_append]
  congr 1
  · refine List.map_congr_left fun i hi => ?_
    have hi := List.mem_range.1 hi
    have hd : t * w ws.length / s = 0 := by rw [hwn]; simp
    have hx : ahead (cS t s (fun i => (w i : Int)) (fun i => ((t * w i / s : Nat) : Int))) (ws.length + 1) i = ahead (cS t s (fun i => (w i : Int)) (fun i => ((t * w i / s : Nat) : Int))) ws.length i := by
      unfold ahead
      rw [List.range_succ, List.countP_append]
      have : ¬ cS t s (fun i => (w i : Int)) (fun i => ((t * w i / s : Nat) : Int)) (ws.length : Int) (i : Int) < 0 := by
        rw [cS_key t s w _ (fun _ => rfl) _ _ (fun _ => rfl) (fun _ => rfl), hwn]
        simp; omega
      generalize cS t s (fun i => (w i : Int)) (fun i => ((t * w i / s : Nat) : Int)) = c at this ⊢
      simp only [Int.not_lt] at this
      simp [this]
    unfold ptN
    rw [hx, sumN_step, hd]; simp
  · have := pt_zero (t := t) (i := ws.length) ha.s0 (n := ws.length + 1) (w := w) (by rw [sumN_step, ha.sw, hwn]; omega) (by omega) hwn
    simp [this]

/-- All weights but one 0. -/
def oneW (k : Nat) : Nat → Int := upd (fun _ => 0) k 7
theorem one_pt {t n k : Nat} (hk : k < n) (hn : n ≤ 60) : spE (t : Int) ((List.range n).map (oneW k)) = 0 ∧ ∃ l : List Int, spS (t : Int) ((List.range n).map (oneW k)) = l ∧ l.length = n ∧ l[k]? = some (t : Int) := by
  have hw : ∀ i, oneW k i = ((if i = k then 7 else 0 : Nat) : Int) := fun i => by unfold oneW upd; split <;> rfl
  have hs7 : ∀ m, sumN (fun i => if i = k then 7 else 0) m = if k < m then 7 else 0 := fun m => by
    induction m with
    | zero => rfl
    | succ m ih =>
      rw [sumN_step, ih]
      by_cases h1 : k < m
      · rw [if_pos h1, if_neg (by omega), if_pos (by omega)]
      · by_cases h2 : m = k
        · rw [if_neg h1, if_pos h2, if_pos (by omega)]
        · rw [if_neg h1, if_neg h2, if_neg (by omega)]
  have h3 : ∀ x ∈ (List.range n).map (oneW k), 0 ≤ x := fun x hx => by
    obtain ⟨i, hi, rfl⟩ := List.mem_map.1 hx
    rw [hw]; omega
  have hspw : ∀ i, spW ((List.range n).map (oneW k)) i = ((if i = k then 7 else 0 : Nat) : Int) := fun i => by
    unfold spW
    by_cases h : i < n
    · rw [List.getElem?_map, List.getElem?_range h]; exact hw i
    · rw [List.getElem?_eq_none (by simp; omega), if_neg (by omega)]; rfl
  have hsum : ((List.range n).map (oneW k)).sum = 7 := by
    have h4 := sum_spW h3
    have h5 := sum_nonneg h3
    simp only [hspw, Int.toNat_natCast, List.length_map, List.length_range] at h4
    rw [hs7, if_pos hk] at h4
    omega
  have ha : Asked (t : Int) ((List.range n).map (oneW k)) t 7 (fun i => if i = k then 7 else 0) :=
    ⟨by simpa using hn, rfl, by rw [hsum]; rfl, by decide, hspw, by rw [List.length_map, List.length_range, hs7, if_pos hk], by decide⟩
  have h0 := asked_spS ha h3
  refine ⟨h0, _, rfl, by rw [spS_pt h0 ha]; simp, ?_⟩
  rw [spS_pt h0 ha, List.length_map, List.length_range, List.getElem?_map, List.getElem?_range hk]
  have hl : t - sumN (fun i => t * (if i = k then 7 else 0) / 7) n = 0 := by
    have h6 := sumN_mono (fun i => t * (if i = k then 7 else 0) / 7) (show k + 1 ≤ n from hk)
    rw [sumN_step] at h6
    simp only [if_pos] at h6
    rw [Nat.mul_div_cancel _ (by decide)] at h6
    omega
  show some ((ptN t 7 n (fun i => if i = k then 7 else 0) k : Nat) : Int) = _
  unfold ptN
  rw [hl, if_neg (by omega)]
  simp [Nat.mul_div_cancel]
end Go.Proofs.Ytaobnhenjldjeaa.Pay
