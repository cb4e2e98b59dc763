/- What Split's sorting compares. No statement of the seed is proved here. -/
import Derived.Test.YtfbpcjkhgiickaaSpI
import Derived.Test.YtfbpcjkhgiickaaSpE
namespace Go.Proofs.Ytfbpcjkhgiickaa.Pay
open Go Go.RowKit
set_option linter.unusedVariables false
set_option linter.unusedSimpArgs false
set_option linter.unusedSectionVars false

theorem cmp_ok (a b c d : Int) (ha : inA a) (hb : inA b) (hc : inA c) (hd : inA d) : Gives Try.prog 34 [.d (dI a), .d (dI b), .d (dI c), .d (dI d)] (.d (dI (cmpI (a * b) (c * d)))) := by
  have p1 := product_ok a b ha hb
  have p2 := product_ok c d hc hd
  have l1 := larger_ok (c * d).natAbs (a * b).natAbs
  have l2 := larger_ok (a * b).natAbs (c * d).natAbs
  obtain ⟨x, hx⟩ : ∃ x, a * b = x := ⟨_, rfl⟩
  obtain ⟨y, hy⟩ : ∃ x, c * d = x := ⟨_, rfl⟩
  rw [hx] at p1 l1 l2 ⊢
  rw [hy] at p2 l1 l2 ⊢
  obtain ⟨u1, hu1⟩ : ∃ q, x.natAbs / 18446744073709551616 = q := ⟨_, rfl⟩
  obtain ⟨u2, hu2⟩ : ∃ q, x.natAbs % 18446744073709551616 = q := ⟨_, rfl⟩
  obtain ⟨v1, hv1⟩ : ∃ q, y.natAbs / 18446744073709551616 = q := ⟨_, rfl⟩
  obtain ⟨v2, hv2⟩ : ∃ q, y.natAbs % 18446744073709551616 = q := ⟨_, rfl⟩
  rw [hu1, hu2] at p1 l1 l2
  rw [hv1, hv2] at p2 l1 l2
  clear hu1 hu2 hv1 hv2 hx hy
  refine Gives.enter tabOk Try.func34 rfl (by show 4 ≤ 53; decide) ?_
  simp only [Try.f34]
  refine WpC.seq (WpC.ops tabOk (r := []) (by simp -implicitDefEqProofs [ltNot] <;> rfl) rfl ?_)
  refine WpC.seq ?_
  refine WpC.region ?_
  refine WpO.run tabOk 2 (by simp -implicitDefEqProofs [ltNot] <;> first | exact ⟨rfl, rfl⟩ | rfl) ?_
  refine WpO.data (by simp) rfl (by simp -implicitDefEqProofs [ltNot] <;> rfl) (by simp -implicitDefEqProofs [ltNot] <;> rfl) (by simp -implicitDefEqProofs [ltNot] <;> rfl) call_47 (by simp) (p1) (by rfl) (by simp -implicitDefEqProofs [ltNot] <;> rfl) ?_
  refine WpO.run tabOk 7 (by simp -implicitDefEqProofs [ltNot] <;> first | exact ⟨rfl, rfl⟩ | rfl) ?_
  refine WpO.nil ?_
  refine WpC.seq ?_
  refine WpC.region ?_
  refine WpO.run tabOk 2 (by simp -implicitDefEqProofs [ltNot] <;> first | exact ⟨rfl, rfl⟩ | rfl) ?_
  refine WpO.data (by simp) rfl (by simp -implicitDefEqProofs [ltNot] <;> rfl) (by simp -implicitDefEqProofs [ltNot] <;> rfl) (by simp -implicitDefEqProofs [ltNot] <;> rfl) call_47 (by simp) (p2) (by rfl) (by simp -implicitDefEqProofs [ltNot] <;> rfl) ?_
  refine WpO.run tabOk 7 (by simp -implicitDefEqProofs [ltNot] <;> first | exact ⟨rfl, rfl⟩ | rfl) ?_
  refine WpO.nil ?_
  refine WpC.seq ?_
  refine WpC.block ?_
  refine WpC.seq ?_
  refine WpC.val 29 (.d (.bool (decide (x < 0 ∧ ¬ y < 0)))) ?_ ?_
  · refine WpC.region ?_
    refine WpO.run tabOk 2 (by simp -implicitDefEqProofs [ltNot] <;> first | exact ⟨rfl, rfl⟩ | rfl) ?_
    refine WpO.splitB 31 (by simp -implicitDefEqProofs [ltNot] <;> rfl) (by rfl) (fun g31 => ?_) (fun g31 => ?_)
    · try (exfalso; revert g31; simp; done)
      all_goals
        have g31' := g31; first | simp only [dT, dF] at g31' | try simp at g31'
        refine WpO.run tabOk 4 (by simp -implicitDefEqProofs [ltNot, g31] <;> first | exact ⟨rfl, rfl⟩ | rfl) ?_
        refine WpO.nil ?_
        refine ⟨rfl, Gh.only 29 7 ?_ (by first | rfl | simp -implicitDefEqProofs [ltNot, g31]) (by rfl)⟩
        simp -implicitDefEqProofs [ltNot, g31, g31'] <;> omega
    · try (exfalso; revert g31; simp; done)
      all_goals
        have g31' := g31; first | simp only [dT, dF] at g31' | try simp at g31'
        refine WpO.run tabOk 4 (by simp -implicitDefEqProofs [ltNot, g31] <;> first | exact ⟨rfl, rfl⟩ | rfl) ?_
        refine WpO.nil ?_
        refine ⟨rfl, Gh.only 29 7 ?_ (by first | rfl | simp -implicitDefEqProofs [ltNot, g31]) (by rfl)⟩
        simp -implicitDefEqProofs [ltNot, g31, g31'] <;> omega
  refine WpC.condD (x < 0 ∧ ¬ y < 0) (by simp -implicitDefEqProofs [ltNot]) (fun d29 => ?_) (fun d29 => ?_)
  · refine WpC.seq (WpC.ops tabOk (r := []) (by simp -implicitDefEqProofs [ltNot, d29] <;> rfl) rfl ?_)
    refine WpC.ret ?_
    try simp only [blockQ, seqQ]
    refine retD_i (by simp -implicitDefEqProofs [ltNot, d29] <;> rfl) (by simp -implicitDefEqProofs [ltNot, d29] <;> rfl) ?_
    rw [show cmpI x y = -1 from by unfold cmpI; rw [if_pos (by omega)]]; simp
  · refine WpC.seq ?_
    refine WpC.val 35 (.d (.bool (decide (y < 0 ∧ ¬ x < 0)))) ?_ ?_
    · refine WpC.region ?_
      refine WpO.run tabOk 2 (by simp -implicitDefEqProofs [ltNot, d29] <;> first | exact ⟨rfl, rfl⟩ | rfl) ?_
      refine WpO.splitB 37 (by simp -implicitDefEqProofs [ltNot, d29] <;> rfl) (by rfl) (fun g37 => ?_) (fun g37 => ?_)
      · try (exfalso; revert g37; simp; done)
        all_goals
          have g37' := g37; first | simp only [dT, dF] at g37' | try simp at g37'
          refine WpO.run tabOk 4 (by simp -implicitDefEqProofs [ltNot, d29, g37] <;> first | exact ⟨rfl, rfl⟩ | rfl) ?_
          refine WpO.nil ?_
          refine ⟨rfl, Gh.only 35 7 ?_ (by first | rfl | simp -implicitDefEqProofs [ltNot, d29, g37]) (by rfl)⟩
          simp -implicitDefEqProofs [ltNot, d29, g37, g37'] <;> omega
      · try (exfalso; revert g37; simp; done)
        all_goals
          have g37' := g37; first | simp only [dT, dF] at g37' | try simp at g37'
          refine WpO.run tabOk 4 (by simp -implicitDefEqProofs [ltNot, d29, g37] <;> first | exact ⟨rfl, rfl⟩ | rfl) ?_
          refine WpO.nil ?_
          refine ⟨rfl, Gh.only 35 7 ?_ (by first | rfl | simp -implicitDefEqProofs [ltNot, d29, g37]) (by rfl)⟩
          simp -implicitDefEqProofs [ltNot, d29, g37, g37'] <;> omega
    refine WpC.condD (y < 0 ∧ ¬ x < 0) (by simp -implicitDefEqProofs [ltNot, d29]) (fun d35 => ?_) (fun d35 => ?_)
    · refine WpC.seq (WpC.ops tabOk (r := []) (by simp -implicitDefEqProofs [ltNot, d29, d35] <;> rfl) rfl ?_)
      refine WpC.ret ?_
      try simp only [blockQ, seqQ]
      refine retD_i (by simp -implicitDefEqProofs [ltNot, d29, d35] <;> rfl) (by simp -implicitDefEqProofs [ltNot, d29, d35] <;> rfl) ?_
      rw [show cmpI x y = 1 from by unfold cmpI; rw [if_neg (by omega), if_neg (by omega)]]; simp
    · refine WpC.seq (WpC.ops tabOk (r := []) (by simp -implicitDefEqProofs [ltNot, d29, d35] <;> rfl) rfl ?_)
      refine WpC.condD (x < 0) (by simp -implicitDefEqProofs [ltNot, d29, d35]) (fun d41 => ?_) (fun d41 => ?_)
      · refine WpC.seq ?_
        refine WpC.region ?_
        refine WpO.run tabOk 4 (by simp -implicitDefEqProofs [ltNot, d29, d35, d41] <;> first | exact ⟨rfl, rfl⟩ | rfl) ?_
        refine WpO.data (by simp) rfl (by simp -implicitDefEqProofs [ltNot, d29, d35, d41] <;> rfl) (by simp -implicitDefEqProofs [ltNot, d29, d35, d41] <;> rfl) (by simp -implicitDefEqProofs [ltNot, d29, d35, d41] <;> rfl) call_48 (by simp) (l1) (by rfl) (by simp -implicitDefEqProofs [ltNot, d29, d35, d41] <;> rfl) ?_
        refine WpO.run tabOk 1 (by simp -implicitDefEqProofs [ltNot, d29, d35, d41] <;> first | exact ⟨rfl, rfl⟩ | rfl) ?_
        refine WpO.nil ?_
        refine WpC.ret ?_
        try simp only [blockQ, seqQ]
        refine retD_i (by simp -implicitDefEqProofs [ltNot, d29, d35, d41] <;> rfl) (by simp -implicitDefEqProofs [ltNot, d29, d35, d41] <;> rfl) ?_
        have e : cmpI (y.natAbs : Int) (x.natAbs : Int) = cmpI x y := by unfold cmpI; split <;> (try split) <;> (try split) <;> (try split) <;> omega
        rw [e]; simp
      · refine WpC.skip ?_
        refine WpC.seq ?_
        refine WpC.region ?_
        refine WpO.run tabOk 4 (by simp -implicitDefEqProofs [ltNot, d29, d35, d41] <;> first | exact ⟨rfl, rfl⟩ | rfl) ?_
        refine WpO.data (by simp) rfl (by simp -implicitDefEqProofs [ltNot, d29, d35, d41] <;> rfl) (by simp -implicitDefEqProofs [ltNot, d29, d35, d41] <;> rfl) (by simp -implicitDefEqProofs [ltNot, d29, d35, d41] <;> rfl) call_48 (by simp) (l2) (by rfl) (by simp -implicitDefEqProofs [ltNot, d29, d35, d41] <;> rfl) ?_
        refine WpO.run tabOk 1 (by simp -implicitDefEqProofs [ltNot, d29, d35, d41] <;> first | exact ⟨rfl, rfl⟩ | rfl) ?_
        refine WpO.nil ?_
        refine WpC.ret ?_
        try simp only [blockQ, seqQ]
        refine retD_i (by simp -implicitDefEqProofs [ltNot, d29, d35, d41] <;> rfl) (by simp -implicitDefEqProofs [ltNot, d29, d35, d41] <;> rfl) ?_
        have e : cmpI (x.natAbs : Int) (y.natAbs : Int) = cmpI x y := by unfold cmpI; split <;> (try split) <;> (try split) <;> (try split) <;> omega
        rw [e]; simp

/-- Is what is left over of the one less than of the other? -/
def lessB (T S : Int) (wf pf : Nat → Int) (i j : Nat) : Bool := decide (T * (wf i - wf j) < (pf i - pf j) * S)
def inN (n : Int) : Prop := 0 ≤ n ∧ n ≤ 9223372036854775807
section
variable (T S : Int) (wf pf : Nat → Int) (n : Nat) (hT : inN T) (hS : inN S) (hw : ∀ i, i < n → inN (wf i)) (hp : ∀ i, i < n → inN (pf i)) (hn : n ≤ 60)
include hT hS hw hp hn
theorem less_ok (i j : Nat) (hi : i < n) (hj : j < n) : Gives Try.prog 21 [.d (dI T), .d (dI S), .d (.list 1 (rowF wf n)), .d (.list 1 (rowF pf n)), .d (dI i), .d (dI j)] (.d (.bool (lessB T S wf pf i j))) := by
  have h1 := hw i hi
  have h2 := hw j hj
  have h3 := hp i hi
  have h4 := hp j hj
  unfold lessB
  obtain ⟨x, hx⟩ : ∃ x, wf i - wf j = x := ⟨_, rfl⟩
  obtain ⟨y, hy⟩ : ∃ x, pf i - pf j = x := ⟨_, rfl⟩
  unfold inN at h1 h2 h3 h4 hT hS
  have w1 : IntKind.i64.wrap (wf i - wf j) = x := by rw [hx]; exact wrapI (by omega) (by omega)
  have w2 : IntKind.i64.wrap (pf i - pf j) = y := by rw [hy]; exact wrapI (by omega) (by omega)
  have hc := cmp_ok T x y S (by unfold inA; omega) (by unfold inA; omega) (by unfold inA; omega) (by unfold inA; omega)
  rw [hx, hy]
  have hk : (cmpI (T * x) (y * S) < 0) = (T * x < y * S) := propext (by
    unfold cmpI
    generalize T * x = p
    generalize y * S = q
    by_cases e1 : p < q
    · simp [e1]
    · by_cases e2 : p = q
      · simp [e2]
      · simp [e1, e2])
  refine Gives.enter tabOk Try.func21 rfl (by show 6 ≤ 35; decide) ?_
  simp only [Try.f21]
  refine WpC.seq (WpC.ops tabOk (r := []) (by simp -implicitDefEqProofs [hi, hj, w1, w2, hk] <;> rfl) rfl ?_)
  refine WpC.seq ?_
  refine WpC.drawn tabOk (by kernel_rfl) 0 (by simp) ?_
  refine DrO.run (fz := []) 3 (by simp -implicitDefEqProofs [hi, hj, w1, w2, hk] <;> first | exact ⟨rfl, rfl, rfl, rfl⟩ | rfl) ?_
  refine DrO.run (fz := []) 3 (by simp -implicitDefEqProofs [hi, hj, w1, w2, hk] <;> first | exact ⟨rfl, rfl, rfl, rfl⟩ | rfl) ?_
  refine DrO.run (fz := []) 3 (by simp -implicitDefEqProofs [hi, hj, w1, w2, hk] <;> first | exact ⟨rfl, rfl, rfl, rfl⟩ | rfl) ?_
  refine DrO.run (fz := []) 3 (by simp -implicitDefEqProofs [hi, hj, w1, w2, hk] <;> first | exact ⟨rfl, rfl, rfl, rfl⟩ | rfl) ?_
  refine DrO.run (fz := []) 3 (by simp -implicitDefEqProofs [hi, hj, w1, w2, hk] <;> first | exact ⟨rfl, rfl, rfl, rfl⟩ | rfl) ?_
  refine DrO.run (fz := []) 3 (by simp -implicitDefEqProofs [hi, hj, w1, w2, hk] <;> first | exact ⟨rfl, rfl, rfl, rfl⟩ | rfl) ?_
  refine DrO.run (fz := []) 2 (by simp -implicitDefEqProofs [hi, hj, w1, w2, hk] <;> first | exact ⟨rfl, rfl, rfl, rfl⟩ | rfl) ?_
  refine DrO.data (by simp) rfl (by simp -implicitDefEqProofs [hi, hj, w1, w2, hk] <;> rfl) (by simp -implicitDefEqProofs [hi, hj, w1, w2, hk] <;> rfl) (by simp -implicitDefEqProofs [hi, hj, w1, w2, hk] <;> rfl) call_34 (hc) (by rfl) (by simp -implicitDefEqProofs [hi, hj, w1, w2, hk] <;> rfl) ?_
  refine DrO.run (fz := []) 2 (by simp -implicitDefEqProofs [hi, hj, w1, w2, hk] <;> first | exact ⟨rfl, rfl, rfl, rfl⟩ | rfl) ?_
  refine DrO.nil ⟨by kernel_rfl, ?_⟩
  refine WpC.ret ?_
  try simp only [blockQ, seqQ]
  refine retD_i (by simp -implicitDefEqProofs [hi, hj, w1, w2, hk] <;> rfl) (by simp -implicitDefEqProofs [hi, hj, w1, w2, hk] <;> rfl) ?_
  simp -implicitDefEqProofs [hi, hj, w1, w2, hk]

/-- The comparison. -/
def cS (T S : Int) (wf pf : Nat → Int) (x y : Int) : Int := if lessB T S wf pf y.toNat x.toNat = true then -1 else if lessB T S wf pf x.toNat y.toNat = true then 1 else x - y
def okS (n : Nat) (x : Int) : Prop := 0 ≤ x ∧ x < n
theorem cS_ok (x y : Int) (hx : okS n x) (hy : okS n y) : Gives Try.prog 20 [.d (dI x), .d (dI y), .dp [dI T], .dp [dI S], .dp [.list 1 (rowF wf n)], .dp [.list 1 (rowF pf n)]] (.d (dI (cS T S wf pf x y))) := by
  obtain ⟨i, rfl⟩ : ∃ i : Nat, x = i := ⟨x.toNat, by unfold okS at hx; omega⟩
  obtain ⟨j, rfl⟩ : ∃ i : Nat, y = i := ⟨y.toNat, by unfold okS at hy; omega⟩
  have hi : i < n := by unfold okS at hx; omega
  have hj : j < n := by unfold okS at hy; omega
  have l1 := less_ok T S wf pf n hT hS hw hp hn j i hj hi
  have l2 := less_ok T S wf pf n hT hS hw hp hn i j hi hj
  have hd : IntKind.i64.wrap ((i : Int) - j) = (i : Int) - j := wrapI (by omega) (by omega)
  unfold cS
  rw [show (i : Int).toNat = i from rfl, show (j : Int).toNat = j from rfl]
  obtain ⟨b1, hb1⟩ : ∃ b, lessB T S wf pf j i = b := ⟨_, rfl⟩
  obtain ⟨b2, hb2⟩ : ∃ b, lessB T S wf pf i j = b := ⟨_, rfl⟩
  rw [hb1] at l1 ⊢
  rw [hb2] at l2 ⊢
  refine Gives.enter tabOk Try.func20 rfl (by show 6 ≤ 28; decide) ?_
  simp only [Try.f20]
  refine WpC.seq (WpC.ops tabOk (r := []) (by simp -implicitDefEqProofs [hd] <;> rfl) rfl ?_)
  refine WpC.seq ?_
  refine WpC.block ?_
  refine WpC.seq ?_
  refine WpC.region ?_
  refine WpO.run tabOk 6 (by simp -implicitDefEqProofs [hd] <;> first | exact ⟨rfl, rfl⟩ | rfl) ?_
  refine WpO.data (by simp) rfl (by simp -implicitDefEqProofs [hd] <;> rfl) (by simp -implicitDefEqProofs [hd] <;> rfl) (by simp -implicitDefEqProofs [hd] <;> rfl) call_21 (by simp) (l1) (by rfl) (by simp -implicitDefEqProofs [hd] <;> rfl) ?_
  refine WpO.run tabOk 1 (by simp -implicitDefEqProofs [hd] <;> first | exact ⟨rfl, rfl⟩ | rfl) ?_
  refine WpO.nil ?_
  refine WpC.condR (by simp -implicitDefEqProofs [hd] <;> rfl) (by rfl) (fun c9 => ?_) (fun c9 => ?_)
  · have c9' := c9; first | simp only [dT, dF] at c9' | try simp at c9'
    refine WpC.seq (WpC.ops tabOk (r := []) (by simp -implicitDefEqProofs [hd, c9] <;> rfl) rfl ?_)
    refine WpC.ret ?_
    try simp only [blockQ, seqQ]
    refine retD_i (by simp -implicitDefEqProofs [hd, c9] <;> rfl) (by simp -implicitDefEqProofs [hd, c9] <;> rfl) ?_
    simp -implicitDefEqProofs [hd, c9]
  · have c9' := c9; first | simp only [dT, dF] at c9' | try simp at c9'
    refine WpC.seq ?_
    refine WpC.region ?_
    refine WpO.run tabOk 6 (by simp -implicitDefEqProofs [hd, c9] <;> first | exact ⟨rfl, rfl⟩ | rfl) ?_
    refine WpO.data (by simp) rfl (by simp -implicitDefEqProofs [hd, c9] <;> rfl) (by simp -implicitDefEqProofs [hd, c9] <;> rfl) (by simp -implicitDefEqProofs [hd, c9] <;> rfl) call_21 (by simp) (l2) (by rfl) (by simp -implicitDefEqProofs [hd, c9] <;> rfl) ?_
    refine WpO.run tabOk 1 (by simp -implicitDefEqProofs [hd, c9] <;> first | exact ⟨rfl, rfl⟩ | rfl) ?_
    refine WpO.nil ?_
    refine WpC.condR (by simp -implicitDefEqProofs [hd, c9] <;> rfl) (by rfl) (fun c17 => ?_) (fun c17 => ?_)
    · have c17' := c17; first | simp only [dT, dF] at c17' | try simp at c17'
      refine WpC.seq (WpC.ops tabOk (r := []) (by simp -implicitDefEqProofs [hd, c9, c17] <;> rfl) rfl ?_)
      refine WpC.ret ?_
      try simp only [blockQ, seqQ]
      refine retD_i (by simp -implicitDefEqProofs [hd, c9, c17] <;> rfl) (by simp -implicitDefEqProofs [hd, c9, c17] <;> rfl) ?_
      simp -implicitDefEqProofs [hd, c9, c17]
    · have c17' := c17; first | simp only [dT, dF] at c17' | try simp at c17'
      refine WpC.skip ?_
      refine WpC.seq (WpC.ops tabOk (r := []) (by simp -implicitDefEqProofs [hd, c9, c17] <;> rfl) rfl ?_)
      refine WpC.ret ?_
      try simp only [blockQ, seqQ]
      refine retD_i (by simp -implicitDefEqProofs [hd, c9, c17] <;> rfl) (by simp -implicitDefEqProofs [hd, c9, c17] <;> rfl) ?_
      simp -implicitDefEqProofs [hd, c9, c17]
omit hT hS hw hp hn in
theorem cS_cmp : Cmp (cS T S wf pf) (okS n) := by
  have key : ∀ x y : Int, okS n x → okS n y → (cS T S wf pf x y < 0 ↔ (T * wf y.toNat - pf y.toNat * S < T * wf x.toNat - pf x.toNat * S ∨ (T * wf y.toNat - pf y.toNat * S = T * wf x.toNat - pf x.toNat * S ∧ x < y))) := by
    intro x y hx hy
    have e : ∀ i j, lessB T S wf pf i j = true ↔ T * wf i - pf i * S < T * wf j - pf j * S := fun i j => by
      unfold lessB
      rw [decide_eq_true_iff, Int.mul_sub, Int.sub_mul]; omega
    unfold cS
    by_cases h1 : lessB T S wf pf y.toNat x.toNat = true
    · rw [if_pos h1]
      have := (e _ _).1 h1
      omega
    · rw [if_neg h1]
      have h1' : ¬ _ := fun q => h1 ((e _ _).2 q)
      by_cases h2 : lessB T S wf pf x.toNat y.toNat = true
      · rw [if_pos h2]
        have := (e _ _).1 h2
        omega
      · rw [if_neg h2]
        have h2' : ¬ _ := fun q => h2 ((e _ _).2 q)
        omega
  refine ⟨fun x y hx hy h => ?_, fun x y z hx hy hz h1 h2 => ?_, fun x y hx hy h => ?_⟩
  · rw [key _ _ hx hy] at h
    rw [key _ _ hy hx]; omega
  · rw [key _ _ hx hy] at h1
    rw [key _ _ hy hz] at h2
    rw [key _ _ hx hz]; omega
  · rw [key _ _ hx hy, key _ _ hy hx]; omega
end
end Go.Proofs.Ytfbpcjkhgiickaa.Pay
