/- Blocks of a row change places: slices' swapRange and rotate. No statement of the seed is proved here. -/
import Derived.Test.YtfbpcjkhgiickaaPayP
namespace Go.Proofs.Ytfbpcjkhgiickaa.Pay
open Go Go.RowKit
set_option linter.unusedVariables false
set_option linter.unusedSimpArgs false

/-- What stays in a segment: numbers outside stay where they are, those inside come from inside, unlike ones stay unlike. -/
structure Mv (a b : Nat) (g h : Nat → Int) : Prop where
  out : ∀ i, i < a ∨ b ≤ i → h i = g i
  src : ∀ i, a ≤ i → i < b → ∃ j, a ≤ j ∧ j < b ∧ h i = g j
  inj : (∀ i j, a ≤ i → i < b → a ≤ j → j < b → g i = g j → i = j) → ∀ i j, a ≤ i → i < b → a ≤ j → j < b → h i = h j → i = j
theorem Mv.refl (a b : Nat) (g : Nat → Int) : Mv a b g g := ⟨fun _ _ => rfl, fun i h1 h2 => ⟨i, h1, h2, rfl⟩, fun h => h⟩
theorem Mv.trans {a b : Nat} {g h k : Nat → Int} (x : Mv a b g h) (y : Mv a b h k) : Mv a b g k :=
  ⟨fun i hi => (y.out i hi).trans (x.out i hi), fun i h1 h2 => by
    obtain ⟨j, j1, j2, e⟩ := y.src i h1 h2
    obtain ⟨l, l1, l2, e2⟩ := x.src j j1 j2
    exact ⟨l, l1, l2, e.trans e2⟩, fun h => y.inj (x.inj h)⟩
theorem Mv.wide {a b a' b' : Nat} {g h : Nat → Int} (x : Mv a b g h) (h1 : a' ≤ a) (h2 : b ≤ b') : Mv a' b' g h :=
  ⟨fun i hi => x.out i (by omega), fun i i1 i2 => by
    by_cases hi : a ≤ i ∧ i < b
    · obtain ⟨j, j1, j2, e⟩ := x.src i hi.1 hi.2
      exact ⟨j, by omega, by omega, e⟩
    · exact ⟨i, i1, i2, x.out i (by omega)⟩, fun hg i j i1 i2 j1 j2 e => by
    have hin := x.inj fun i j a1 a2 a3 a4 e => hg i j (by omega) (by omega) (by omega) (by omega) e
    by_cases hi : a ≤ i ∧ i < b
    · by_cases hj : a ≤ j ∧ j < b
      · exact hin i j hi.1 hi.2 hj.1 hj.2 e
      · obtain ⟨k, k1, k2, e2⟩ := x.src i hi.1 hi.2
        rw [e2, x.out j (by omega)] at e
        have := hg k j (by omega) (by omega) j1 j2 e
        omega
    · by_cases hj : a ≤ j ∧ j < b
      · obtain ⟨k, k1, k2, e2⟩ := x.src j hj.1 hj.2
        rw [e2, x.out i (by omega)] at e
        have := hg i k i1 i2 (by omega) (by omega) e
        omega
      · rw [x.out i (by omega), x.out j (by omega)] at e
        exact hg i j i1 i2 j1 j2 e⟩
/-- By a rule that tells where each number comes from. -/
theorem Mv.of {a b : Nat} {g h : Nat → Int} (σ : Nat → Nat) (h0 : ∀ i, h i = g (σ i)) (h1 : ∀ i, i < a ∨ b ≤ i → σ i = i) (h2 : ∀ i, a ≤ i → i < b → a ≤ σ i ∧ σ i < b) (h3 : ∀ i j, a ≤ i → i < b → a ≤ j → j < b → σ i = σ j → i = j) : Mv a b g h :=
  ⟨fun i hi => by rw [h0, h1 i hi], fun i i1 i2 => ⟨σ i, (h2 i i1 i2).1, (h2 i i1 i2).2, h0 i⟩, fun hg i j i1 i2 j1 j2 e => by
    rw [h0, h0] at e
    exact h3 i j i1 i2 j1 j2 (hg _ _ (h2 i i1 i2).1 (h2 i i1 i2).2 (h2 j j1 j2).1 (h2 j j1 j2).2 e)⟩

def sw (g : Nat → Int) (i j : Nat) : Nat → Int := upd (upd g i (g j)) j (g i)
theorem sw_at (g : Nat → Int) (i j k : Nat) : sw g i j k = if k = j then g i else if k = i then g j else g k := rfl
theorem Mv.sw {a b i j : Nat} (g : Nat → Int) (h1 : a ≤ i) (h2 : i < b) (h3 : a ≤ j) (h4 : j < b) : Mv a b g (sw g i j) :=
  Mv.of (fun k => if k = j then i else if k = i then j else k) (fun k => by
    rw [sw_at]
    by_cases e1 : k = j
    · simp [e1]
    · by_cases e2 : k = i
      · simp [e1, e2]; split <;> rfl
      · simp [e1, e2]) (fun k hk => by rw [if_neg (by omega), if_neg (by omega)]) (fun k k1 k2 => by split <;> (try split) <;> omega) (fun k l k1 k2 l1 l2 e => by
    split at e <;> split at e <;> (try split at e) <;> (try split at e) <;> omega)

/-- Two blocks of c numbers, at a and at b, change places. -/
def swR (g : Nat → Int) (a b c : Nat) : Nat → Int := fun i => if a ≤ i ∧ i < a + c then g (b + (i - a)) else if b ≤ i ∧ i < b + c then g (a + (i - b)) else g i
theorem swR_zero (g : Nat → Int) (a b : Nat) : swR g a b 0 = g := by
  funext i
  unfold swR
  rw [if_neg (by omega), if_neg (by omega)]
theorem swR_step (g : Nat → Int) {a b c : Nat} (h : a + c < b) : sw (swR g a b c) (a + c) (b + c) = swR g a b (c + 1) := by
  funext i
  rw [sw_at]
  unfold swR
  by_cases e1 : i = b + c
  · subst e1
    rw [if_pos rfl, if_neg (by omega), if_neg (by omega), if_neg (by omega), if_pos (by omega)]
    congr 1; omega
  · rw [if_neg e1]
    by_cases e2 : i = a + c
    · subst e2
      rw [if_pos rfl, if_neg (by omega), if_neg (by omega), if_pos (by omega)]
      congr 1; omega
    · rw [if_neg e2]
      by_cases e3 : a ≤ i ∧ i < a + c
      · rw [if_pos e3, if_pos (by omega)]
      · rw [if_neg e3, if_neg (c := a ≤ i ∧ i < a + (c + 1)) (by omega)]
        by_cases e4 : b ≤ i ∧ i < b + c
        · rw [if_pos e4, if_pos (by omega)]
        · rw [if_neg e4, if_neg (by omega)]

section
variable (cT cS : Int) (cW cP : List D)
theorem swapRange_ok (g : Nat → Int) (n a b c : Nat) (h1 : a + c ≤ b) (h2 : b + c ≤ n) (hn : n ≤ 1000000) :
    WpF Try.prog 52 [.sl 0 n, .d (dI a), .d (dI b), .d (dI c), .fn 20 [.dp [dI cT], .dp [dI cS], .dp [.list 1 cW], .dp [.list 1 cP]]] [.arr 3 1 (rowF g n)]
      fun r S => r = .tup [] ∧ S = [.arr 3 1 (rowF (swR g a b c) n)] := by
  have hz := swR_zero g a b
  refine WpF.enter tabOk Try.func52 rfl (by show 5 ≤ 38; decide) ?_
  simp only [Try.f52]
  refine WpC.seq (WpC.ops tabOk (r := []) (by simp -implicitDefEqProofs [hz] <;> rfl) rfl ?_)
  refine WpC.block ?_
  refine WpC.loopK [0, 1, 2, 3] [10] (c) (() : Unit) (fun k _ => [(10, .d (.int .i64 k))]) (fun k _ => [.arr 3 1 (rowF (swR g a b k) n)]) (fun k _ => True) (by simp -implicitDefEqProofs [hz] <;> rfl) (Gh.cut' [10, 0, 1, 2, 3] 1 (by simp -implicitDefEqProofs [hz]) (by simp -implicitDefEqProofs [hz]) rfl (by simp) (by simp) (by simp)) (by trivial) ?_
  rintro k ⟨⟩ hk hi
  simp only [List.cons_append, List.nil_append]
  refine WpC.seq ?_
  refine WpC.seq (WpC.ops tabOk (r := []) (by simp -implicitDefEqProofs [hz] <;> rfl) rfl ?_)
  refine WpC.condD (k < c) (by simp -implicitDefEqProofs [hz] <;> omega) (fun hlt => ?_) (fun hge => ?_)
  · refine WpC.skip ?_
    have hst := swR_step g (a := a) (b := b) (c := k) (by omega)
    obtain ⟨h, hh⟩ : ∃ h, swR g a b k = h := ⟨_, rfl⟩
    obtain ⟨p, hp⟩ : ∃ p, a + k = p := ⟨_, rfl⟩
    obtain ⟨q, hq⟩ : ∃ q, b + k = q := ⟨_, rfl⟩
    have hw1 : IntKind.i64.wrap ((a : Int) + k) = p := by rw [wrapI (by omega) (by omega)]; omega
    have hw2 : IntKind.i64.wrap ((b : Int) + k) = q := by rw [wrapI (by omega) (by omega)]; omega
    have hw : IntKind.i64.wrap ((k : Int) + 1) = k + 1 := wrapI (by omega) (by omega)
    have hpn : p < n := by omega
    have hqn : q < n := by omega
    rw [hh, hp, hq] at hst
    unfold sw at hst
    refine WpC.seq ?_
    refine WpC.block ?_
    refine WpC.drawn tabOk (by kernel_rfl) 0 (by simp) ?_
    refine DrO.run (fz := []) 3 (by simp -implicitDefEqProofs [hz, hlt, hh, hw, hw1, hw2, hpn, hqn] <;> first | exact ⟨rfl, rfl, rfl, rfl⟩ | rfl) ?_
    refine DrO.run (fz := []) 3 (by simp -implicitDefEqProofs [hz, hlt, hh, hw, hw1, hw2, hpn, hqn] <;> first | exact ⟨rfl, rfl, rfl, rfl⟩ | rfl) ?_
    refine DrO.run (fz := []) 3 (by simp -implicitDefEqProofs [hz, hlt, hh, hw, hw1, hw2, hpn, hqn] <;> first | exact ⟨rfl, rfl, rfl, rfl⟩ | rfl) ?_
    refine DrO.run (fz := []) 3 (by simp -implicitDefEqProofs [hz, hlt, hh, hw, hw1, hw2, hpn, hqn] <;> first | exact ⟨rfl, rfl, rfl, rfl⟩ | rfl) ?_
    refine DrO.run (fz := []) 3 (by simp -implicitDefEqProofs [hz, hlt, hh, hw, hw1, hw2, hpn, hqn] <;> first | exact ⟨rfl, rfl, rfl, rfl⟩ | rfl) ?_
    refine DrO.run (fz := []) 3 (by simp -implicitDefEqProofs [hz, hlt, hh, hw, hw1, hw2, hpn, hqn] <;> first | exact ⟨rfl, rfl, rfl, rfl⟩ | rfl) ?_
    refine DrO.run (fz := []) 3 (by simp -implicitDefEqProofs [hz, hlt, hh, hw, hw1, hw2, hpn, hqn] <;> first | exact ⟨rfl, rfl, rfl, rfl⟩ | rfl) ?_
    refine DrO.run (fz := []) 3 (by simp -implicitDefEqProofs [hz, hlt, hh, hw, hw1, hw2, hpn, hqn] <;> first | exact ⟨rfl, rfl, rfl, rfl⟩ | rfl) ?_
    refine DrO.nil ⟨by kernel_rfl, ?_⟩
    refine WpC.ops tabOk (r := []) (by simp -implicitDefEqProofs [hz, hlt, hh, hw, hw1, hw2, hpn, hqn] <;> rfl) rfl ?_
    exact ⟨hlt, (), trivial, Gh.cut' [10, 0, 1, 2, 3] 1 (by simp -implicitDefEqProofs [hz, hlt, hh, hw, hw1, hw2, hpn, hqn, hst]) (by simp -implicitDefEqProofs [hz, hlt, hh, hw, hw1, hw2, hpn, hqn, hst]) rfl (by simp) (by simp) (by simp)⟩
  · refine WpC.exit ?_
    have hkn : k = c := by omega
    subst hkn
    refine ⟨.inl rfl, [], rfl, ?_, by simp⟩
    exact ⟨rfl, rfl⟩
end

/-- The blocks [a, m) and [m, b) change places. -/
def rot (g : Nat → Int) (a m b : Nat) : Nat → Int := fun i => if a ≤ i ∧ i < a + (b - m) then g (m + (i - a)) else if a + (b - m) ≤ i ∧ i < b then g (i - (b - m)) else g i
theorem rot_mv (g : Nat → Int) {a m b : Nat} (h1 : a ≤ m) (h2 : m ≤ b) : Mv a b g (rot g a m b) :=
  Mv.of (fun i => if a ≤ i ∧ i < a + (b - m) then m + (i - a) else if a + (b - m) ≤ i ∧ i < b then i - (b - m) else i) (fun i => by
    unfold rot
    split
    · rfl
    · split <;> rfl) (fun k hk => by rw [if_neg (by omega), if_neg (by omega)]) (fun k k1 k2 => by split <;> (try split) <;> omega) (fun k l k1 k2 l1 l2 e => by
    split at e <;> split at e <;> (try split at e) <;> (try split at e) <;> omega)
theorem rot_even (g : Nat → Int) {m i : Nat} (h : i ≤ m) : swR g (m - i) m i = rot g (m - i) m (m + i) := by
  funext k
  unfold swR rot
  rw [show m - i + i = m from by omega, show m + i - m = i from by omega, show m - i + i = m from by omega]
  by_cases e1 : m - i ≤ k ∧ k < m
  · rw [if_pos e1, if_pos e1]
  · rw [if_neg e1, if_neg e1]
    by_cases e2 : m ≤ k ∧ k < m + i
    · rw [if_pos e2, if_pos e2]; congr 1; omega
    · rw [if_neg e2, if_neg e2]
theorem swR_1 {g : Nat → Int} {a b c i j : Nat} (h : a ≤ i ∧ i < a + c) (e : b + (i - a) = j) : swR g a b c i = g j := by unfold swR; rw [if_pos h, e]
theorem swR_2 {g : Nat → Int} {a b c i j : Nat} (h1 : ¬ (a ≤ i ∧ i < a + c)) (h2 : b ≤ i ∧ i < b + c) (e : a + (i - b) = j) : swR g a b c i = g j := by unfold swR; rw [if_neg h1, if_pos h2, e]
theorem swR_3 {g : Nat → Int} {a b c i : Nat} (h1 : ¬ (a ≤ i ∧ i < a + c)) (h2 : ¬ (b ≤ i ∧ i < b + c)) : swR g a b c i = g i := by unfold swR; rw [if_neg h1, if_neg h2]
theorem rot_1 {g : Nat → Int} {a m b i j : Nat} (h : a ≤ i ∧ i < a + (b - m)) (e : m + (i - a) = j) : rot g a m b i = g j := by unfold rot; rw [if_pos h, e]
theorem rot_2 {g : Nat → Int} {a m b i j : Nat} (h1 : ¬ (a ≤ i ∧ i < a + (b - m))) (h2 : a + (b - m) ≤ i ∧ i < b) (e : i - (b - m) = j) : rot g a m b i = g j := by unfold rot; rw [if_neg h1, if_pos h2, e]
theorem rot_3 {g : Nat → Int} {a m b i : Nat} (h1 : ¬ (a ≤ i ∧ i < a + (b - m))) (h2 : ¬ (a + (b - m) ≤ i ∧ i < b)) : rot g a m b i = g i := by unfold rot; rw [if_neg h1, if_neg h2]
theorem rot_left (g : Nat → Int) {m i j : Nat} (h : i ≤ m) (hij : j < i) : rot (swR g (m - i) m j) (m - (i - j)) m (m + j) = rot g (m - i) m (m + j) := by
  funext k
  by_cases e1 : m - (i - j) ≤ k ∧ k < m - (i - j) + j
  · rw [rot_1 (j := m + (k - (m - (i - j)))) (by omega) rfl, swR_2 (j := k - j) (by omega) (by omega) (by omega), rot_2 (j := k - j) (by omega) (by omega) (by omega)]
  · by_cases e2 : m - (i - j) + j ≤ k ∧ k < m + j
    · rw [rot_2 (j := k - j) (by omega) (by omega) (by omega), swR_3 (by omega) (by omega), rot_2 (j := k - j) (by omega) (by omega) (by omega)]
    · rw [rot_3 (by omega) (by omega)]
      by_cases e3 : m - i ≤ k ∧ k < m - i + j
      · rw [swR_1 e3 rfl, rot_1 (by omega) rfl]
      · rw [swR_3 e3 (by omega), rot_3 (by omega) (by omega)]
theorem rot_right (g : Nat → Int) {m i j : Nat} (h : i ≤ m) (hij : i < j) : rot (swR g (m - i) (m + j - i) i) (m - i) m (m + (j - i)) = rot g (m - i) m (m + j) := by
  funext k
  by_cases e1 : m - i ≤ k ∧ k < m - i + (j - i)
  · rw [rot_1 (j := m + (k - (m - i))) (by omega) rfl, rot_1 (g := g) (j := m + (k - (m - i))) (by omega) rfl, swR_3 (by omega) (by omega)]
  · by_cases e2 : m - i + (j - i) ≤ k ∧ k < m + (j - i)
    · rw [rot_2 (j := k - (j - i)) (by omega) (by omega) (by omega)]
      rw [swR_1 (j := m + (k - (m - i))) (by omega) (by omega), rot_1 (g := g) (j := m + (k - (m - i))) (by omega) rfl]
    · rw [rot_3 (by omega) (by omega)]
      by_cases e3 : m + j - i ≤ k ∧ k < m + j - i + i
      · rw [swR_2 (j := k - j) (by omega) e3 (by omega), rot_2 (j := k - j) (by omega) (by omega) (by omega)]
      · rw [swR_3 (by omega) e3, rot_3 (by omega) (by omega)]

section
variable (cT cS : Int) (cW cP : List D)
theorem rotate_ok (g : Nat → Int) (n a m b : Nat) (h1 : a < m) (h2 : m < b) (h3 : b ≤ n) (hn : n ≤ 1000000) :
    WpF Try.prog 51 [.sl 0 n, .d (dI a), .d (dI m), .d (dI b), .fn 20 [.dp [dI cT], .dp [dI cS], .dp [.list 1 cW], .dp [.list 1 cP]]] [.arr 3 1 (rowF g n)]
      fun r S => r = .tup [] ∧ S = [.arr 3 1 (rowF (rot g a m b) n)] := by
  have hi1 : IntKind.i64.wrap ((m : Int) - a) = ((m - a : Nat) : Int) := by rw [wrapI (by omega) (by omega)]; omega
  have hj1 : IntKind.i64.wrap ((b : Int) - m) = ((b - m : Nat) : Int) := by rw [wrapI (by omega) (by omega)]; omega
  refine WpF.enter tabOk Try.func51 rfl (by show 5 ≤ 58; decide) ?_
  simp only [Try.f51]
  refine WpC.seq (WpC.ops tabOk (r := []) (by simp -implicitDefEqProofs [hi1, hj1] <;> rfl) rfl ?_)
  refine WpC.seq (WpC.ops tabOk (r := []) (by simp -implicitDefEqProofs [hi1, hj1] <;> rfl) rfl ?_)
  refine WpC.seq ?_
  refine WpC.block ?_
  refine WpC.loopM [0, 2, 4] [10, 11] (fun x => x.1 + x.2.1) ((m - a, b - m, g) : Nat × Nat × (Nat → Int)) (fun x => [(10, .d (dI (x.1 : Nat))), (11, .d (dI (x.2.1 : Nat)))]) (fun x => [.arr 3 1 (rowF x.2.2 n)]) (fun x => 0 < x.1 ∧ 0 < x.2.1 ∧ x.1 ≤ m ∧ m + x.2.1 ≤ n ∧ rot x.2.2 (m - x.1) m (m + x.2.1) = rot g a m b) (by simp -implicitDefEqProofs [hi1, hj1] <;> rfl) (Gh.cut' [10, 11, 0, 2, 4] 1 (by simp -implicitDefEqProofs [hi1, hj1]) (by simp -implicitDefEqProofs [hi1, hj1]) rfl (by simp) (by simp) (by simp)) (⟨by simp; omega, by simp; omega, by simp, by simp; omega, by simp only; congr 1 <;> omega⟩) ?_
  rintro x hi
  simp only [List.cons_append, List.nil_append]
  obtain ⟨i, j, h⟩ := x
  obtain ⟨h4, h5, h6, h7, h8⟩ := hi
  simp only at h4 h5 h6 h7 h8 ⊢
  refine WpC.seq ?_
  refine WpC.seq (WpC.ops tabOk (r := []) (by simp -implicitDefEqProofs [hi1, hj1] <;> rfl) rfl ?_)
  refine WpC.condR (by simp -implicitDefEqProofs [hi1, hj1] <;> rfl) (by rfl) (fun c20 => ?_) (fun c20 => ?_)
  · have c20' := c20; first | simp only [dT, dF] at c20' | try simp at c20'
    refine WpC.skip ?_
    refine WpC.block ?_
    refine WpC.seq (WpC.ops tabOk (r := []) (by simp -implicitDefEqProofs [hi1, hj1, c20] <;> rfl) rfl ?_)
    refine WpC.condR (by simp -implicitDefEqProofs [hi1, hj1, c20] <;> rfl) (by rfl) (fun c23 => ?_) (fun c23 => ?_)
    · have c23' := c23; first | simp only [dT, dF] at c23' | try simp at c23'
      have hij : j < i := by simpa using c23
      have hw1 : IntKind.i64.wrap ((m : Int) - i) = ((m - i : Nat) : Int) := by rw [wrapI (by omega) (by omega)]; omega
      have hw2 : IntKind.i64.wrap ((i : Int) - j) = ((i - j : Nat) : Int) := by rw [wrapI (by omega) (by omega)]; omega
      have hc := swapRange_ok cT cS cW cP h n (m - i) m j (by omega) (by omega) hn
      refine WpC.seq ?_
      refine WpC.region ?_
      refine WpO.run tabOk 7 (by simp -implicitDefEqProofs [hi1, hj1, c20, c23, hw1, hw2] <;> first | exact ⟨rfl, rfl⟩ | rfl) ?_
      refine WpO.callP [0] (by simp) rfl (by simp -implicitDefEqProofs [hi1, hj1, c20, c23, hw1, hw2] <;> rfl) (by simp -implicitDefEqProofs [hi1, hj1, c20, c23, hw1, hw2] <;> rfl) call_52 (by simp) (by simp) (by simp) (by simp -implicitDefEqProofs [hi1, hj1, c20, c23, hw1, hw2]) (by simp; rfl) (by simp -implicitDefEqProofs [hi1, hj1, c20, c23, hw1, hw2]) ( hc) fun r S1 hr => ?_
      obtain ⟨rfl, rfl⟩ := hr
      refine ⟨_, by simp -implicitDefEqProofs [hi1, hj1, c20, c23, hw1, hw2] <;> rfl, ?_⟩
      refine WpO.nil ?_
      refine WpC.ops tabOk (r := []) (by simp -implicitDefEqProofs [hi1, hj1, c20, c23, hw1, hw2] <;> rfl) rfl ?_
      exact ⟨(i - j, j, swR h (m - i) m j), ⟨by simp; omega, h5, by simp; omega, h7, by rw [← h8]; exact rot_left h h6 hij⟩, by simp; omega, Gh.cut' [10, 11, 0, 2, 4] 1 (by simp -implicitDefEqProofs [hi1, hj1, c20, c23, hw1, hw2, c20', c23']) (by simp -implicitDefEqProofs [hi1, hj1, c20, c23, hw1, hw2, c20', c23']) rfl (by simp) (by simp) (by simp)⟩
    · have c23' := c23; first | simp only [dT, dF] at c23' | try simp at c23'
      have hij : ¬ j < i := by simpa using c23
      have hij2 : i < j := by simp at c20; omega
      have hw1 : IntKind.i64.wrap ((m : Int) - i) = ((m - i : Nat) : Int) := by rw [wrapI (by omega) (by omega)]; omega
      have hw2 : IntKind.i64.wrap ((j : Int) - i) = ((j - i : Nat) : Int) := by rw [wrapI (by omega) (by omega)]; omega
      have hw3 : IntKind.i64.wrap ((m : Int) + j) = ((m + j : Nat) : Int) := by rw [wrapI (by omega) (by omega)]; omega
      have hw4 : IntKind.i64.wrap (((m + j : Nat) : Int) - i) = ((m + j - i : Nat) : Int) := by rw [wrapI (by omega) (by omega)]; omega
      have hw5 : IntKind.i64.wrap ((m : Int) + j - i) = ((m + j - i : Nat) : Int) := by rw [wrapI (by omega) (by omega)]; omega
      have hc := swapRange_ok cT cS cW cP h n (m - i) (m + j - i) i (by omega) (by omega) hn
      refine WpC.seq ?_
      refine WpC.region ?_
      refine WpO.run tabOk 11 (by simp -implicitDefEqProofs [hi1, hj1, c20, c23, hw1, hw2, hw3, hw4, hw5] <;> first | exact ⟨rfl, rfl⟩ | rfl) ?_
      refine WpO.callP [0] (by simp) rfl (by simp -implicitDefEqProofs [hi1, hj1, c20, c23, hw1, hw2, hw3, hw4, hw5] <;> rfl) (by simp -implicitDefEqProofs [hi1, hj1, c20, c23, hw1, hw2, hw3, hw4, hw5] <;> rfl) call_52 (by simp) (by simp) (by simp) (by simp -implicitDefEqProofs [hi1, hj1, c20, c23, hw1, hw2, hw3, hw4, hw5]) (by simp; rfl) (by simp -implicitDefEqProofs [hi1, hj1, c20, c23, hw1, hw2, hw3, hw4, hw5]) ( hc) fun r S1 hr => ?_
      obtain ⟨rfl, rfl⟩ := hr
      refine ⟨_, by simp -implicitDefEqProofs [hi1, hj1, c20, c23, hw1, hw2, hw3, hw4, hw5] <;> rfl, ?_⟩
      refine WpO.nil ?_
      refine WpC.ops tabOk (r := []) (by simp -implicitDefEqProofs [hi1, hj1, c20, c23, hw1, hw2, hw3, hw4, hw5] <;> rfl) rfl ?_
      exact ⟨(i, j - i, swR h (m - i) (m + j - i) i), ⟨h4, by simp; omega, h6, by simp; omega, by rw [← h8]; exact rot_right h h6 hij2⟩, by simp; omega, Gh.cut' [10, 11, 0, 2, 4] 1 (by simp -implicitDefEqProofs [hi1, hj1, c20, c23, hw1, hw2, hw3, hw4, hw5, c20', c23']) (by simp -implicitDefEqProofs [hi1, hj1, c20, c23, hw1, hw2, hw3, hw4, hw5, c20', c23']) rfl (by simp) (by simp) (by simp)⟩
  · have c20' := c20; first | simp only [dT, dF] at c20' | try simp at c20'
    refine WpC.exit ?_
    have hij : i = j := by simp at c20; omega
    subst hij
    have hw1 : IntKind.i64.wrap ((m : Int) - i) = ((m - i : Nat) : Int) := by rw [wrapI (by omega) (by omega)]; omega
    have hc := swapRange_ok cT cS cW cP h n (m - i) m i (by omega) (by omega) hn
    rw [rot_even h h6, h8] at hc
    refine WpC.region ?_
    refine WpO.run tabOk 7 (by simp -implicitDefEqProofs [hi1, hj1, c20, hw1] <;> first | exact ⟨rfl, rfl⟩ | rfl) ?_
    refine WpO.callP [0] (by simp) rfl (by simp -implicitDefEqProofs [hi1, hj1, c20, hw1] <;> rfl) (by simp -implicitDefEqProofs [hi1, hj1, c20, hw1] <;> rfl) call_52 (by simp) (by simp) (by simp) (by simp -implicitDefEqProofs [hi1, hj1, c20, hw1]) (by simp; rfl) (by simp -implicitDefEqProofs [hi1, hj1, c20, hw1]) ( hc) fun r S1 hr => ?_
    obtain ⟨rfl, rfl⟩ := hr
    refine ⟨_, by simp -implicitDefEqProofs [hi1, hj1, c20, hw1] <;> rfl, ?_⟩
    refine WpO.nil ?_
    refine ⟨.inl rfl, [], rfl, ?_, by simp⟩
    exact ⟨rfl, rfl⟩
end
end Go.Proofs.Ytfbpcjkhgiickaa.Pay
