/- The document's split walked. No statement of the seed is proved here. -/
import Derived.Test.YtfbpcjkhgiickaaBgD
import Derived.Test.YtfbpcjkhgiickaaSpR
namespace Go.Proofs.Ytfbpcjkhgiickaa.Pay
open Go Go.RowKit
set_option linter.unusedVariables false
set_option linter.unusedSimpArgs false
set_option linter.unusedSectionVars false

theorem refRight_ok (n : Int) : Gives Try.prog 36 [.d (dI n)] (.d (.bool (decide (¬ n = -9223372036854775808)))) := by
  refine Gives.enter tabOk Try.func36 rfl (by show 1 ≤ 5; decide) ?_
  simp only [Try.f36]
  refine WpC.seq (WpC.ops tabOk (r := []) (by simp -implicitDefEqProofs <;> rfl) rfl ?_)
  refine WpC.seq (WpC.ops tabOk (r := []) (by simp -implicitDefEqProofs <;> rfl) rfl ?_)
  refine WpC.ret ?_
  try simp only [blockQ, seqQ]
  refine retD_i (by simp -implicitDefEqProofs <;> rfl) (by simp -implicitDefEqProofs <;> rfl) ?_
  simp -implicitDefEqProofs
theorem refAdd_ok (a b : Int) (ha : in64 a) (hb : in64 b) : Gives Try.prog 23 [.d (dI a), .d (dI b)] (.tup [.d (dI (if addB a b = true then a + b else 0)), .d (.bool (addB a b))]) := by
  unfold in64 at ha hb
  have r1 := refRight_ok a
  have r2 := refRight_ok b
  have hbad : (a = -9223372036854775808 ∨ b = -9223372036854775808) → addB a b = false := fun h => by
    unfold addB
    rw [decide_eq_false_iff_not]; omega
  have w1 : 0 < b → IntKind.i64.wrap (9223372036854775807 - b) = 9223372036854775807 - b := fun h => wrapI (by omega) (by omega)
  have w2 : b < 0 → ¬ b = -9223372036854775808 → IntKind.i64.wrap (-9223372036854775807 - b) = -9223372036854775807 - b := fun h h2 => wrapI (by omega) (by omega)
  refine Gives.enter tabOk Try.func23 rfl (by show 2 ≤ 35; decide) ?_
  simp only [Try.f23]
  refine WpC.seq (WpC.ops tabOk (r := []) (by simp -implicitDefEqProofs <;> rfl) rfl ?_)
  refine WpC.seq ?_
  refine WpC.seq ?_
  refine WpC.val 13 (.d (.bool (decide (a = -9223372036854775808 ∨ b = -9223372036854775808)))) ?_ ?_
  · refine WpC.region ?_
    refine WpO.run tabOk 1 (by simp -implicitDefEqProofs <;> first | exact ⟨rfl, rfl⟩ | rfl) ?_
    refine WpO.data (by simp) rfl (by simp -implicitDefEqProofs <;> rfl) (by simp -implicitDefEqProofs <;> rfl) (by simp -implicitDefEqProofs <;> rfl) call_36 (by simp) (r1) (by rfl) (by simp -implicitDefEqProofs <;> rfl) ?_
    refine WpO.run tabOk 2 (by simp -implicitDefEqProofs <;> first | exact ⟨rfl, rfl⟩ | rfl) ?_
    refine WpO.splitB 9 (by simp -implicitDefEqProofs <;> rfl) (by rfl) (fun g9 => ?_) (fun g9 => ?_)
    · have g9' := g9; first | simp only [dT, dF] at g9' | try simp at g9'
      refine WpO.run tabOk 4 (by simp -implicitDefEqProofs [g9] <;> first | exact ⟨rfl, rfl⟩ | rfl) ?_
      refine WpO.nil ?_
      refine ⟨rfl, Gh.only 13 9 ?_ (by first | rfl | simp -implicitDefEqProofs [g9]) (by rfl)⟩
      simp -implicitDefEqProofs [g9, g9']
    · have g9' := g9; first | simp only [dT, dF] at g9' | try simp at g9'
      refine WpO.run tabOk 1 (by simp -implicitDefEqProofs [g9] <;> first | exact ⟨rfl, rfl⟩ | rfl) ?_
      refine WpO.data (by simp) rfl (by simp -implicitDefEqProofs [g9] <;> rfl) (by simp -implicitDefEqProofs [g9] <;> rfl) (by simp -implicitDefEqProofs [g9] <;> rfl) call_36 (by simp) (r2) (by rfl) (by simp -implicitDefEqProofs [g9] <;> rfl) ?_
      refine WpO.run tabOk 2 (by simp -implicitDefEqProofs [g9] <;> first | exact ⟨rfl, rfl⟩ | rfl) ?_
      refine WpO.nil ?_
      refine ⟨rfl, Gh.only 13 9 ?_ (by first | rfl | simp -implicitDefEqProofs [g9]) (by rfl)⟩
      simp -implicitDefEqProofs [g9, g9']
  refine WpC.condD (a = -9223372036854775808 ∨ b = -9223372036854775808) (by simp -implicitDefEqProofs) (fun d13 => ?_) (fun d13 => ?_)
  · refine WpC.seq (WpC.ops tabOk (r := []) (by simp -implicitDefEqProofs [d13] <;> rfl) rfl ?_)
    refine WpC.ret ?_
    try simp only [blockQ, seqQ]
    refine retD_i (by simp -implicitDefEqProofs [d13] <;> rfl) (by simp -implicitDefEqProofs [d13] <;> rfl) ?_
    simp [hbad d13]
  · refine WpC.skip ?_
    refine WpC.seq ?_
    refine WpC.seq ?_
    refine WpC.val 31 (.d (.bool (decide ((0 < b ∧ 9223372036854775807 - b < a) ∨ (b < 0 ∧ a < -9223372036854775807 - b))))) ?_ ?_
    · refine WpC.region ?_
      refine WpO.run tabOk 3 (by simp -implicitDefEqProofs [d13] <;> first | exact ⟨rfl, rfl⟩ | rfl) ?_
      refine WpO.splitB 16 (by simp -implicitDefEqProofs [d13] <;> rfl) (by rfl) (fun g16 => ?_) (fun g16 => ?_)
      · have g16' := g16; first | simp only [dT, dF] at g16' | try simp at g16'
        have w1 := w1 (by simpa using g16)
        refine WpO.run tabOk 6 (by simp -implicitDefEqProofs [d13, g16, w1] <;> first | exact ⟨rfl, rfl⟩ | rfl) ?_
        refine WpO.splitB 22 (by simp -implicitDefEqProofs [d13, g16, w1] <;> rfl) (by rfl) (fun g22 => ?_) (fun g22 => ?_)
        · have g22' := g22; first | simp only [dT, dF] at g22' | try simp at g22'
          refine WpO.run tabOk 9 (by simp -implicitDefEqProofs [d13, g16, w1, g22] <;> first | exact ⟨rfl, rfl⟩ | rfl) ?_
          refine WpO.nil ?_
          refine ⟨rfl, Gh.only 31 20 ?_ (by first | rfl | simp -implicitDefEqProofs [d13, g16, w1, g22]) (by rfl)⟩
          all_goals (clear r1 r2 hbad; first | (simp_all; done) | (simp_all; omega) | omega)
        · have g22' := g22; first | simp only [dT, dF] at g22' | try simp at g22'
          refine WpO.run tabOk 3 (by simp -implicitDefEqProofs [d13, g16, w1, g22] <;> first | exact ⟨rfl, rfl⟩ | rfl) ?_
          refine WpO.splitB 25 (by simp -implicitDefEqProofs [d13, g16, w1, g22] <;> rfl) (by rfl) (fun g25 => ?_) (fun g25 => ?_)
          · have g25' := g25; first | simp only [dT, dF] at g25' | try simp at g25'
            have w2 := w2 (by simpa using g25) (by omega)
            refine WpO.run tabOk 6 (by simp -implicitDefEqProofs [d13, g16, w1, g22, g25, w2] <;> first | exact ⟨rfl, rfl⟩ | rfl) ?_
            refine WpO.nil ?_
            refine ⟨rfl, Gh.only 31 21 ?_ (by first | rfl | simp -implicitDefEqProofs [d13, g16, w1, g22, g25, w2]) (by rfl)⟩
            all_goals (clear r1 r2 hbad; first | (simp_all; done) | (simp_all; omega) | omega)
          · have g25' := g25; first | simp only [dT, dF] at g25' | try simp at g25'
            refine WpO.run tabOk 6 (by simp -implicitDefEqProofs [d13, g16, w1, g22, g25] <;> first | exact ⟨rfl, rfl⟩ | rfl) ?_
            refine WpO.nil ?_
            refine ⟨rfl, Gh.only 31 21 ?_ (by first | rfl | simp -implicitDefEqProofs [d13, g16, w1, g22, g25]) (by rfl)⟩
            all_goals (clear r1 r2 hbad; first | (simp_all; done) | (simp_all; omega) | omega)
      · have g16' := g16; first | simp only [dT, dF] at g16' | try simp at g16'
        refine WpO.run tabOk 9 (by simp -implicitDefEqProofs [d13, g16] <;> first | exact ⟨rfl, rfl⟩ | rfl) ?_
        refine WpO.splitB 25 (by simp -implicitDefEqProofs [d13, g16] <;> rfl) (by rfl) (fun g25 => ?_) (fun g25 => ?_)
        · have g25' := g25; first | simp only [dT, dF] at g25' | try simp at g25'
          have w2 := w2 (by simpa using g25) (by omega)
          refine WpO.run tabOk 6 (by simp -implicitDefEqProofs [d13, g16, g25, w2] <;> first | exact ⟨rfl, rfl⟩ | rfl) ?_
          refine WpO.nil ?_
          refine ⟨rfl, Gh.only 31 20 ?_ (by first | rfl | simp -implicitDefEqProofs [d13, g16, g25, w2]) (by rfl)⟩
          all_goals (clear r1 r2 hbad; first | (simp_all; done) | (simp_all; omega) | omega)
        · have g25' := g25; first | simp only [dT, dF] at g25' | try simp at g25'
          refine WpO.run tabOk 6 (by simp -implicitDefEqProofs [d13, g16, g25] <;> first | exact ⟨rfl, rfl⟩ | rfl) ?_
          refine WpO.nil ?_
          refine ⟨rfl, Gh.only 31 20 ?_ (by first | rfl | simp -implicitDefEqProofs [d13, g16, g25]) (by rfl)⟩
          all_goals (clear r1 r2 hbad; first | (simp_all; done) | (simp_all; omega) | omega)
    refine WpC.condD ((0 < b ∧ 9223372036854775807 - b < a) ∨ (b < 0 ∧ a < -9223372036854775807 - b)) (by simp -implicitDefEqProofs [d13]) (fun d31 => ?_) (fun d31 => ?_)
    · refine WpC.seq (WpC.ops tabOk (r := []) (by simp -implicitDefEqProofs [d13, d31] <;> rfl) rfl ?_)
      refine WpC.ret ?_
      try simp only [blockQ, seqQ]
      refine retD_i (by simp -implicitDefEqProofs [d13, d31] <;> rfl) (by simp -implicitDefEqProofs [d13, d31] <;> rfl) ?_
      have hb2 : addB a b = false := by unfold addB; rw [decide_eq_false_iff_not]; omega
      simp [hb2]
    · refine WpC.skip ?_
      refine WpC.seq (WpC.ops tabOk (r := []) (by simp -implicitDefEqProofs [d13, d31] <;> rfl) rfl ?_)
      refine WpC.ret ?_
      try simp only [blockQ, seqQ]
      refine retD_i (by simp -implicitDefEqProofs [d13, d31] <;> rfl) (by simp -implicitDefEqProofs [d13, d31] <;> rfl) ?_
      have hb2 : addB a b = true := by unfold addB; rw [decide_eq_true_iff]; omega
      have hw : IntKind.i64.wrap (a + b) = a + b := wrapI (by omega) (by omega)
      simp [hb2, hw]
def rstep (p : Int × Bool) (x : Int) : Int × Bool := if p.2 = true then (if addB p.1 x = true then p.1 + x else 0, addB p.1 x) else p
def rsum (l : List Int) : Int × Bool := l.foldl rstep (0, true)
theorem rsum_stop : ∀ (l : List Int) (x : Int), l.foldl rstep (x, false) = (x, false)
  | [], _ => rfl
  | y :: l, x => by rw [List.foldl_cons]; exact rsum_stop l x
theorem rsum_nn : ∀ (l : List Int) (s : Int), 0 ≤ s → s ≤ 9223372036854775807 → (∀ x ∈ l, 0 ≤ x ∧ x ≤ 9223372036854775807) → l.foldl rstep (s, true) = if s + l.sum ≤ 9223372036854775807 then (s + l.sum, true) else (0, false)
  | [], s, h1, h2, _ => by simp [h2]
  | x :: l, s, h1, h2, h => by
    have hx := h x (by simp)
    have hl := sum_nonneg (l := l) fun y hy => (h y (by simp [hy])).1
    rw [List.foldl_cons, List.sum_cons]
    have e : rstep (s, true) x = (if addB s x = true then s + x else 0, addB s x) := rfl
    rw [e]
    by_cases hb : s + x ≤ 9223372036854775807
    · have : addB s x = true := by unfold addB; rw [decide_eq_true_iff]; omega
      rw [this, if_pos rfl, rsum_nn l (s + x) (by omega) hb fun y hy => h y (by simp [hy]), Int.add_assoc]
    · have : addB s x = false := by unfold addB; rw [decide_eq_false_iff_not]; omega
      rw [this, if_neg (by simp), rsum_stop, if_neg (by omega)]
theorem rsum_in (l : List Int) (h : ∀ x ∈ l, in64 x) : in64 (rsum l).1 := by
  have key : ∀ (l : List Int) (p : Int × Bool), in64 p.1 → in64 (l.foldl rstep p).1 := fun l => by
    induction l with
    | nil => intro p hp; exact hp
    | cons x l ih =>
      intro p hp
      rw [List.foldl_cons]
      refine ih _ ?_
      unfold rstep
      split
      · show in64 (if addB p.1 x = true then p.1 + x else 0)
        by_cases hb : addB p.1 x = true
        · rw [if_pos hb]
          unfold addB at hb
          rw [decide_eq_true_iff] at hb
          unfold in64; omega
        · rw [if_neg hb]; unfold in64; omega
      · exact hp
  exact key l _ (by unfold in64; decide)
theorem refSum_ok (l : List Int) (h : ∀ x ∈ l, in64 x) (hl : l.length ≤ 1000000) : Gives Try.prog 11 [.d (.list 1 (l.map dI))] (.tup [.d (dI (rsum l).1), .d (.bool (rsum l).2)]) := by
  have hz : rsum [] = (0, true) := rfl
  refine Gives.enter tabOk Try.func11 rfl (by show 1 ≤ 27; decide) ?_
  simp only [Try.f11]
  refine WpC.seq (WpC.ops tabOk (r := []) (by simp -implicitDefEqProofs [hz] <;> rfl) rfl ?_)
  refine WpC.seq (WpC.ops tabOk (r := []) (by simp -implicitDefEqProofs [hz] <;> rfl) rfl ?_)
  refine WpC.seq ?_
  refine WpC.seq (WpC.ops tabOk (r := []) (by simp -implicitDefEqProofs [hz] <;> rfl) rfl ?_)
  refine WpC.block ?_
  refine WpC.loopM [0] [4, 5, 6] (fun k => l.length - k) (0 : Nat) (fun k => [(4, .d (dI (rsum (l.take k)).1)), (5, .d (.bool (rsum (l.take k)).2)), (6, .d (dI (k : Nat)))]) (fun k => []) (fun k => k ≤ l.length) (by simp -implicitDefEqProofs [hz] <;> rfl) (Gh.cut' [4, 5, 6, 0] 0 (by simp -implicitDefEqProofs [hz]) (by simp -implicitDefEqProofs [hz]) rfl (by simp) (by simp) (by simp)) (Nat.zero_le _) ?_
  rintro k hi
  simp only [List.cons_append, List.nil_append]
  have hkl : k ≤ l.length := hi
  have h64 := rsum_in (l.take k) fun x hx => h x (List.mem_of_mem_take hx)
  obtain ⟨p, hp⟩ : ∃ p, rsum (l.take k) = p := ⟨_, rfl⟩
  rw [hp] at h64 ⊢
  obtain ⟨s, ok⟩ := p
  simp only at h64 ⊢
  refine WpC.seq ?_
  refine WpC.seq ?_
  refine WpC.val 13 (.d (.bool (decide (k < l.length ∧ ok = true)))) ?_ ?_
  · refine WpC.region ?_
    refine WpO.run tabOk 5 (by simp -implicitDefEqProofs [hz] <;> first | exact ⟨rfl, rfl⟩ | rfl) ?_
    refine WpO.splitB 11 (by simp -implicitDefEqProofs [hz] <;> rfl) (by rfl) (fun g11 => ?_) (fun g11 => ?_)
    · have g11' := g11; first | simp only [dT, dF] at g11' | try simp at g11'
      refine WpO.run tabOk 2 (by simp -implicitDefEqProofs [hz, g11] <;> first | exact ⟨rfl, rfl⟩ | rfl) ?_
      refine WpO.nil ?_
      refine ⟨rfl, Gh.only 13 8 ?_ (by first | rfl | simp -implicitDefEqProofs [hz, g11]) (by rfl)⟩
      simp -implicitDefEqProofs [hz, g11, g11']
    · have g11' := g11; first | simp only [dT, dF] at g11' | try simp at g11'
      refine WpO.run tabOk 2 (by simp -implicitDefEqProofs [hz, g11] <;> first | exact ⟨rfl, rfl⟩ | rfl) ?_
      refine WpO.nil ?_
      refine ⟨rfl, Gh.only 13 8 ?_ (by first | rfl | simp -implicitDefEqProofs [hz, g11]) (by rfl)⟩
      simp -implicitDefEqProofs [hz, g11, g11']
  refine WpC.condD (k < l.length ∧ ok = true) (by simp -implicitDefEqProofs [hz]) (fun d13 => ?_) (fun d13 => ?_)
  · have hlt : k < l.length := d13.1
    have hok : ok = true := d13.2
    subst hok
    obtain ⟨x, hx⟩ : ∃ x, l[k] = x := ⟨_, rfl⟩
    have hst : rsum (l.take (k + 1)) = (if addB s x = true then s + x else 0, addB s x) := by
      unfold rsum
      rw [foldl_take _ _ hlt, show (l.take k).foldl rstep (0, true) = (s, true) from hp, hx]; rfl
    have ha := refAdd_ok s x h64 (h x (hx ▸ List.getElem_mem hlt))
    have hkw : IntKind.i64.wrap ((k : Int) + 1) = k + 1 := wrapI (by omega) (by omega)
    refine WpC.skip ?_
    refine WpC.seq ?_
    refine WpC.block ?_
    refine WpC.region ?_
    refine WpO.run tabOk 5 (by simp -implicitDefEqProofs [hz, d13, hlt, hx, hkw] <;> first | exact ⟨rfl, rfl⟩ | rfl) ?_
    refine WpO.data (by simp) rfl (by simp -implicitDefEqProofs [hz, d13, hlt, hx, hkw] <;> rfl) (by simp -implicitDefEqProofs [hz, d13, hlt, hx, hkw] <;> rfl) (by simp -implicitDefEqProofs [hz, d13, hlt, hx, hkw] <;> rfl) call_23 (by simp) (ha) (by rfl) (by simp -implicitDefEqProofs [hz, d13, hlt, hx, hkw] <;> rfl) ?_
    refine WpO.run tabOk 5 (by simp -implicitDefEqProofs [hz, d13, hlt, hx, hkw] <;> first | exact ⟨rfl, rfl⟩ | rfl) ?_
    refine WpO.nil ?_
    refine WpC.ops tabOk (r := []) (by simp -implicitDefEqProofs [hz, d13, hlt, hx, hkw] <;> rfl) rfl ?_
    exact ⟨k + 1, hlt, by omega, Gh.cut' [4, 5, 6, 0] 0 (by simp -implicitDefEqProofs [hz, d13, hlt, hx, hkw, hst]) (by simp) rfl (by simp) (by simp) (by simp)⟩
  · refine WpC.exit ?_
    refine WpC.seq (WpC.ops tabOk (r := []) (by simp -implicitDefEqProofs [hz, d13] <;> rfl) rfl ?_)
    refine WpC.ret ?_
    try simp only [blockQ, seqQ]
    refine retD_i (by simp -implicitDefEqProofs [hz, d13] <;> rfl) (by simp -implicitDefEqProofs [hz, d13] <;> rfl) ?_
    have hf : rsum l = (s, ok) := by
      by_cases hk : k < l.length
      · have hok : ok = false := by cases ok with | false => rfl | true => exact absurd ⟨hk, rfl⟩ d13
        subst hok
        unfold rsum
        rw [← List.take_append_drop k l, List.foldl_append, show (l.take k).foldl rstep (0, true) = (s, false) from hp, rsum_stop]
      · rw [← hp, List.take_of_length_le (by omega)]
    simp [hf]
theorem mul_pos2 {a b : Int} {A B : Nat} (hA : a.natAbs = A) (hB : b.natAbs = B) : (if signB (decide (a < 0)) (decide (b < 0)) (A * B) = true then -((A * B : Nat) : Int) else ((A * B : Nat) : Int)) = a * b ∧ (signB (decide (a < 0)) (decide (b < 0)) (A * B) = true → 0 < A * B) := by
  subst hA; subst hB
  refine ⟨?_, fun h => by unfold signB at h; rw [Bool.and_eq_true] at h; exact of_decide_eq_true h.2⟩
  have hab : ((a.natAbs * b.natAbs : Nat) : Int) = (a * b).natAbs := by rw [Int.natAbs_mul]
  by_cases h0 : a.natAbs * b.natAbs = 0
  · have : a * b = 0 := by rw [← Int.natAbs_eq_zero, Int.natAbs_mul]; exact h0
    rw [h0, this]; simp
  · have hpos : 0 < a.natAbs * b.natAbs := by omega
    by_cases h1 : a < 0 <;> by_cases h2 : b < 0
    · have : 0 ≤ a * b := by have := Int.mul_nonneg (show 0 ≤ -a by omega) (show 0 ≤ -b by omega); rwa [Int.neg_mul_neg] at this
      simp only [signB, h1, h2]
      rw [hab]; simp; omega
    · have : a * b ≤ 0 := by have := Int.mul_nonneg (show 0 ≤ -a by omega) (show 0 ≤ b by omega); rw [Int.neg_mul] at this; omega
      simp only [signB, h1, h2, hpos]
      rw [hab]; simp; omega
    · have : a * b ≤ 0 := by have := Int.mul_nonneg (show 0 ≤ a by omega) (show 0 ≤ -b by omega); rw [Int.mul_neg] at this; omega
      simp only [signB, h1, h2, hpos]
      rw [hab]; simp; omega
    · have : 0 ≤ a * b := Int.mul_nonneg (show 0 ≤ a by omega) (show 0 ≤ b by omega)
      simp only [signB, h1, h2]
      rw [hab]; simp; omega
section
variable (T S : Int) (wf pf : Nat → Int) (n : Nat) (hT : inN T) (hS : inN S) (hw : ∀ i, i < n → inN (wf i)) (hp : ∀ i, i < n → inN (pf i)) (hn : n ≤ 60)
include hT hS hw hp hn
set_option maxHeartbeats 4000000 in
theorem above_ok (i j : Nat) (hi : i < n) (hj : j < n) : Gives Try.prog 25 [.d (dI T), .d (dI S), .d (.list 1 (rowF wf n)), .d (.list 1 (rowF pf n)), .d (dI i), .d (dI j)] (.d (.bool (lessB T S wf pf j i))) := by
  have h1 := hw i hi
  have h2 := hw j hj
  have h3 := hp i hi
  have h4 := hp j hj
  have hless : lessB T S wf pf j i = decide ((pf i - pf j) * S < T * (wf i - wf j)) := by
    unfold lessB
    congr 1
    rw [show wf j - wf i = -(wf i - wf j) by omega, show pf j - pf i = -(pf i - pf j) by omega, Int.mul_neg, Int.neg_mul]
    exact propext ⟨fun h => by omega, fun h => by omega⟩
  rw [hless]
  obtain ⟨x, hx⟩ : ∃ x, wf i - wf j = x := ⟨_, rfl⟩
  obtain ⟨y, hy⟩ : ∃ x, pf i - pf j = x := ⟨_, rfl⟩
  unfold inN at h1 h2 h3 h4 hT hS
  have w1 : IntKind.i64.wrap (wf i - wf j) = x := by rw [hx]; exact wrapI (by omega) (by omega)
  have w2 : IntKind.i64.wrap (pf i - pf j) = y := by rw [hy]; exact wrapI (by omega) (by omega)
  have oT := of_ok T (by unfold in64; omega)
  have oS := of_ok S (by unfold in64; omega)
  have ox := of_ok x (by unfold in64; omega)
  have oy := of_ok y (by unfold in64; omega)
  rw [hx, hy]
  have l19 : ∀ z : Int, z.natAbs ≤ 9223372036854775808 → (dgs z.natAbs).length ≤ 1000 := fun z hz => Nat.le_trans (dgs_19 hz) (by decide)
  have mA := mulB_okB (decide (T < 0)) (decide (x < 0)) T.natAbs x.natAbs (l19 _ (by omega)) (l19 _ (by omega))
  have mB := mulB_okB (decide (y < 0)) (decide (S < 0)) y.natAbs S.natAbs (l19 _ (by omega)) (l19 _ (by omega))
  have sA := mul_pos2 (a := T) (b := x) rfl rfl
  have sB := mul_pos2 (a := y) (b := S) rfl rfl
  have lA : T.natAbs * x.natAbs ≤ 9223372036854775808 * 9223372036854775808 := Nat.mul_le_mul (by omega) (by omega)
  have lB : y.natAbs * S.natAbs ≤ 9223372036854775808 * 9223372036854775808 := Nat.mul_le_mul (by omega) (by omega)
  have l39 : ∀ z : Nat, z ≤ 9223372036854775808 * 9223372036854775808 → (dgs z).length ≤ 39 := fun z hz => dgs_len_le (Nat.lt_of_le_of_lt hz (by decide))
  have lA2 := l39 _ lA
  have lB2 := l39 _ lB
  obtain ⟨mA', hmA⟩ : ∃ m, signB (decide (T < 0)) (decide (x < 0)) (T.natAbs * x.natAbs) = m := ⟨_, rfl⟩
  obtain ⟨mB', hmB⟩ : ∃ m, signB (decide (y < 0)) (decide (S < 0)) (y.natAbs * S.natAbs) = m := ⟨_, rfl⟩
  rw [hmA] at mA sA
  rw [hmB] at mB sB
  obtain ⟨A, hA⟩ : ∃ m, T.natAbs * x.natAbs = m := ⟨_, rfl⟩
  obtain ⟨B, hB⟩ : ∃ m, y.natAbs * S.natAbs = m := ⟨_, rfl⟩
  rw [hA] at mA sA lA2
  rw [hB] at mB sB lB2
  have hc := cmpB_ok mA' mB' A B (by omega) (by omega) _ _ sA.1.symm sB.1.symm sA.2 sB.2
  obtain ⟨P, hP⟩ : ∃ P, T * x = P := ⟨_, rfl⟩
  obtain ⟨Q, hQ⟩ : ∃ P, y * S = P := ⟨_, rfl⟩
  rw [hP, hQ] at hc
  rw [hP, hQ]
  have hsg : (0 < sgnI (P - Q)) = (Q < P) := propext (by
    unfold sgnI
    by_cases h1 : P - Q < 0
    · rw [if_pos h1]; omega
    · rw [if_neg h1]
      by_cases h2 : 0 < P - Q
      · rw [if_pos h2]; omega
      · rw [if_neg h2]; omega)
  unfold encB at oT oS ox oy mA mB hc
  refine Gives.enter tabOk Try.func25 rfl (by show 6 ≤ 45; decide) ?_
  simp only [Try.f25]
  refine WpC.seq (WpC.ops tabOk (r := []) (by simp -implicitDefEqProofs [hi, hj, w1, w2, hsg] <;> rfl) rfl ?_)
  refine WpC.seq ?_
  refine WpC.drawn tabOk (by kernel_rfl) 1 (by simp) ?_
  refine DrO.run (fz := []) 1 (by simp -implicitDefEqProofs [hi, hj, w1, w2, hsg] <;> first | exact ⟨rfl, rfl, rfl, rfl⟩ | rfl) ?_
  refine DrO.data (by simp) rfl (by simp -implicitDefEqProofs [hi, hj, w1, w2, hsg] <;> rfl) (by simp -implicitDefEqProofs [hi, hj, w1, w2, hsg] <;> rfl) (by simp -implicitDefEqProofs [hi, hj, w1, w2, hsg] <;> rfl) call_38 (oT) (by rfl) (by simp -implicitDefEqProofs [hi, hj, w1, w2, hsg] <;> rfl) ?_
  refine DrO.run (fz := []) 3 (by simp -implicitDefEqProofs [hi, hj, w1, w2, hsg] <;> first | exact ⟨rfl, rfl, rfl, rfl⟩ | rfl) ?_
  refine DrO.run (fz := []) 3 (by simp -implicitDefEqProofs [hi, hj, w1, w2, hsg] <;> first | exact ⟨rfl, rfl, rfl, rfl⟩ | rfl) ?_
  refine DrO.run (fz := []) 3 (by simp -implicitDefEqProofs [hi, hj, w1, w2, hsg] <;> first | exact ⟨rfl, rfl, rfl, rfl⟩ | rfl) ?_
  refine DrO.data (by simp) rfl (by simp -implicitDefEqProofs [hi, hj, w1, w2, hsg] <;> rfl) (by simp -implicitDefEqProofs [hi, hj, w1, w2, hsg] <;> rfl) (by simp -implicitDefEqProofs [hi, hj, w1, w2, hsg] <;> rfl) call_38 (ox) (by rfl) (by simp -implicitDefEqProofs [hi, hj, w1, w2, hsg] <;> rfl) ?_
  refine DrO.data (by simp) rfl (by simp -implicitDefEqProofs [hi, hj, w1, w2, hsg] <;> rfl) (by simp -implicitDefEqProofs [hi, hj, w1, w2, hsg] <;> rfl) (by simp -implicitDefEqProofs [hi, hj, w1, w2, hsg] <;> rfl) call_37 (mA) (by rfl) (by simp -implicitDefEqProofs [hi, hj, w1, w2, hsg] <;> rfl) ?_
  refine DrO.run (fz := []) 2 (by simp -implicitDefEqProofs [hi, hj, w1, w2, hsg] <;> first | exact ⟨rfl, rfl, rfl, rfl⟩ | rfl) ?_
  refine DrO.nil ⟨by kernel_rfl, ?_⟩
  refine WpC.seq ?_
  refine WpC.drawn tabOk (by kernel_rfl) 1 (by simp) ?_
  refine DrO.run (fz := []) 3 (by simp -implicitDefEqProofs [hi, hj, w1, w2, hsg] <;> first | exact ⟨rfl, rfl, rfl, rfl⟩ | rfl) ?_
  refine DrO.run (fz := []) 3 (by simp -implicitDefEqProofs [hi, hj, w1, w2, hsg] <;> first | exact ⟨rfl, rfl, rfl, rfl⟩ | rfl) ?_
  refine DrO.run (fz := []) 3 (by simp -implicitDefEqProofs [hi, hj, w1, w2, hsg] <;> first | exact ⟨rfl, rfl, rfl, rfl⟩ | rfl) ?_
  refine DrO.data (by simp) rfl (by simp -implicitDefEqProofs [hi, hj, w1, w2, hsg] <;> rfl) (by simp -implicitDefEqProofs [hi, hj, w1, w2, hsg] <;> rfl) (by simp -implicitDefEqProofs [hi, hj, w1, w2, hsg] <;> rfl) call_38 (oy) (by rfl) (by simp -implicitDefEqProofs [hi, hj, w1, w2, hsg] <;> rfl) ?_
  refine DrO.run (fz := []) 1 (by simp -implicitDefEqProofs [hi, hj, w1, w2, hsg] <;> first | exact ⟨rfl, rfl, rfl, rfl⟩ | rfl) ?_
  refine DrO.data (by simp) rfl (by simp -implicitDefEqProofs [hi, hj, w1, w2, hsg] <;> rfl) (by simp -implicitDefEqProofs [hi, hj, w1, w2, hsg] <;> rfl) (by simp -implicitDefEqProofs [hi, hj, w1, w2, hsg] <;> rfl) call_38 (oS) (by rfl) (by simp -implicitDefEqProofs [hi, hj, w1, w2, hsg] <;> rfl) ?_
  refine DrO.data (by simp) rfl (by simp -implicitDefEqProofs [hi, hj, w1, w2, hsg] <;> rfl) (by simp -implicitDefEqProofs [hi, hj, w1, w2, hsg] <;> rfl) (by simp -implicitDefEqProofs [hi, hj, w1, w2, hsg] <;> rfl) call_37 (mB) (by rfl) (by simp -implicitDefEqProofs [hi, hj, w1, w2, hsg] <;> rfl) ?_
  refine DrO.run (fz := []) 2 (by simp -implicitDefEqProofs [hi, hj, w1, w2, hsg] <;> first | exact ⟨rfl, rfl, rfl, rfl⟩ | rfl) ?_
  refine DrO.nil ⟨by kernel_rfl, ?_⟩
  refine WpC.seq ?_
  refine WpC.region ?_
  refine WpO.run tabOk 2 (by simp -implicitDefEqProofs [hi, hj, w1, w2, hsg] <;> first | exact ⟨rfl, rfl⟩ | rfl) ?_
  refine WpO.data (by simp) rfl (by simp -implicitDefEqProofs [hi, hj, w1, w2, hsg] <;> rfl) (by simp -implicitDefEqProofs [hi, hj, w1, w2, hsg] <;> rfl) (by simp -implicitDefEqProofs [hi, hj, w1, w2, hsg] <;> rfl) call_43 (by simp) (hc) (by rfl) (by simp -implicitDefEqProofs [hi, hj, w1, w2, hsg] <;> rfl) ?_
  refine WpO.run tabOk 2 (by simp -implicitDefEqProofs [hi, hj, w1, w2, hsg] <;> first | exact ⟨rfl, rfl⟩ | rfl) ?_
  refine WpO.nil ?_
  refine WpC.ret ?_
  try simp only [blockQ, seqQ]
  refine retD_i (by simp -implicitDefEqProofs [hi, hj, w1, w2, hsg] <;> rfl) (by simp -implicitDefEqProofs [hi, hj, w1, w2, hsg] <;> rfl) ?_
  simp -implicitDefEqProofs [hi, hj, w1, w2, hsg]
end
end Go.Proofs.Ytfbpcjkhgiickaa.Pay
