/- slices.SortStableFunc at sixty numbers or fewer. No statement of the seed is proved here. -/
import Derived.Test.YtfbpcjkhgiickaaSpD
namespace Go.Proofs.Ytfbpcjkhgiickaa.Pay
open Go Go.RowKit
set_option linter.unusedVariables false
set_option linter.unusedSimpArgs false

/-- Blocks of so many numbers are sorted, below a and from it on. -/
def Bl (c : Int → Int → Int) (g : Nat → Int) (k : Nat) (a b : Nat) : Prop := ∀ i j, a ≤ i → i < j → j < b → i / k = j / k → ¬ c (g j) (g i) < 0

section
variable {c : Int → Int → Int} {g h h' : Nat → Int} {n a k : Nat}
theorem bl_first (hk : k = 20 ∨ k = 40) (ha : a % (2 * k) = 0) (hn : a + k ≤ n) (hb : Bl c h k a n) : Srtd c h a (a + k) := fun i j h1 h2 h3 => by
  rcases hk with rfl | rfl <;> exact hb i j h1 h2 (by omega) (by omega)
theorem bl_next {b : Nat} (hk : k = 20 ∨ k = 40) (ha : a % (2 * k) = 0) (hn : b ≤ n) (hb2 : b ≤ a + 2 * k) (hb : Bl c h k a n) : Srtd c h (a + k) b := fun i j h1 h2 h3 => by
  rcases hk with rfl | rfl <;> exact hb i j (by omega) h2 (by omega) (by omega)
theorem bl_done {b : Nat} (hk : k = 20 ∨ k = 40) (ha : a % (2 * k) = 0) (hb : Bl c h (2 * k) 0 a) (m1 : Mv a b h h') (t1 : Srtd c h' a b) : Bl c h' (2 * k) 0 b := fun i j h1 h2 h3 h4 => by
  by_cases e : j < a
  · rw [m1.out i (by omega), m1.out j (by omega)]; exact hb i j h1 h2 e h4
  · refine t1 i j ?_ h2 h3
    rcases hk with rfl | rfl <;> omega
theorem bl_rest {b : Nat} (hb : Bl c h k a n) (hab : a ≤ b) (m1 : Mv a b h h') : Bl c h' k b n := fun i j h1 h2 h3 h4 => by
  rw [m1.out i (by omega), m1.out j (by omega)]; exact hb i j (by omega) h2 h3 h4
theorem bl_last (hk : k = 20 ∨ k = 40) (ha : a % (2 * k) = 0) (hn : n ≤ a + k) (h1 : Bl c h (2 * k) 0 a) (h2 : Bl c h k a n) : Bl c h (2 * k) 0 n := fun i j i1 i2 i3 i4 => by
  by_cases e : j < a
  · exact h1 i j i1 i2 e i4
  · rcases hk with rfl | rfl <;> exact h2 i j (by omega) i2 i3 (by omega)
theorem bl_all (hn : n ≤ k) (hb : Bl c h k 0 n) : Srtd c h 0 n := fun i j h1 h2 h3 => hb i j h1 h2 h3 (by rw [Nat.div_eq_of_lt (by omega), Nat.div_eq_of_lt (by omega)])
end
section
variable (cT cS : Int) (cW cP : List D) {c : Int → Int → Int} {ok : Int → Prop} (hcm : Cmp c ok)
  (hcc : ∀ x y, ok x → ok y → Gives Try.prog 20 [.d (dI x), .d (dI y), .dp [dI cT], .dp [dI cS], .dp [.list 1 cW], .dp [.list 1 cP]] (.d (dI (c x y))))
include hcm hcc
set_option maxHeartbeats 40000000 in
theorem stable_ok (g : Nat → Int) (n : Nat) (hn : n ≤ 60) (hok : AllOk ok g n) :
    WpF Try.prog 33 [.sl 0 n, .d (dI n), .fn 20 [.dp [dI cT], .dp [dI cS], .dp [.list 1 cW], .dp [.list 1 cP]]] [.arr 3 1 (rowF g n)]
      fun r S => ∃ h, r = .tup [] ∧ S = [.arr 3 1 (rowF h n)] ∧ Mv 0 n g h ∧ Srtd c h 0 n := by
  refine WpF.enter tabOk Try.func33 rfl (by show 3 ≤ 63; decide) ?_
  simp only [Try.f33]
  refine WpC.seq (WpC.ops tabOk (r := []) (by simp -implicitDefEqProofs <;> rfl) rfl ?_)
  refine WpC.seq (WpC.ops tabOk (r := []) (by simp -implicitDefEqProofs <;> rfl) rfl ?_)
  refine WpC.seq ?_
  refine WpC.block ?_
  refine WpC.loopM [0, 1, 2, 6] [7, 8] (fun x => 100 - x.1) ((0, g) : Nat × (Nat → Int)) (fun x => [(7, .d (dI (x.1 : Nat))), (8, .d (dI ((x.1 + 20 : Nat) : Int)))]) (fun x => [.arr 3 1 (rowF x.2 n)]) (fun x => x.1 ≤ n ∧ x.1 % 20 = 0 ∧ Mv 0 n g x.2 ∧ Bl c x.2 20 0 x.1) (by simp -implicitDefEqProofs <;> rfl) (Gh.cut' [7, 8, 0, 1, 2, 6] 1 (by simp -implicitDefEqProofs) (by simp -implicitDefEqProofs) rfl (by simp) (by simp) (by simp)) (⟨by simp, by simp, Mv.refl _ _ _, fun i j h1 h2 h3 => by simp at h3⟩) ?_
  rintro x hi
  simp only [List.cons_append, List.nil_append]
  obtain ⟨a, h⟩ := x
  obtain ⟨q1, q2, q3, q4⟩ := hi
  simp only at q1 q2 q3 q4 ⊢
  obtain ⟨b, hb⟩ : ∃ b, a + 20 = b := ⟨_, rfl⟩
  rw [hb]
  have hok1 := q3.okk (Nat.le_refl _) hok
  refine WpC.seq ?_
  refine WpC.seq (WpC.ops tabOk (r := []) (by simp -implicitDefEqProofs <;> rfl) rfl ?_)
  refine WpC.condR (by simp -implicitDefEqProofs <;> rfl) (by rfl) (fun c13 => ?_) (fun c13 => ?_)
  · have c13' := c13; first | simp only [dT, dF] at c13' | try simp at c13'
    have hbn : b ≤ n := by simpa using c13
    have hw1 : IntKind.i64.wrap ((b : Int) + 20) = (b : Int) + 20 := wrapI (by omega) (by omega)
    have hc := insSort_ok cT cS cW cP hcm hcc h n a b (by omega) hbn (by omega) hok1
    refine WpC.skip ?_
    refine WpC.block ?_
    refine WpC.seq ?_
    refine WpC.region ?_
    refine WpO.run tabOk 4 (by simp -implicitDefEqProofs [c13, hw1] <;> first | exact ⟨rfl, rfl⟩ | rfl) ?_
    refine WpO.callP [0] (by simp) rfl (by simp -implicitDefEqProofs [c13, hw1] <;> rfl) (by simp -implicitDefEqProofs [c13, hw1] <;> rfl) call_45 (by simp) (by simp) (by simp) (by simp -implicitDefEqProofs [c13, hw1]) (by simp; rfl) (by simp -implicitDefEqProofs [c13, hw1]) ( hc) fun r S1 hr => ?_
    obtain ⟨h', rfl, rfl, m1, t1⟩ := hr
    refine ⟨_, by simp -implicitDefEqProofs [c13, hw1] <;> rfl, ?_⟩
    refine WpO.nil ?_
    have bl : Bl c h' 20 0 b := fun i j i1 i2 i3 i4 => by
      by_cases e : j < a
      · rw [m1.out i (by omega), m1.out j (by omega)]; exact q4 i j i1 i2 e i4
      · exact t1 i j (by omega) i2 i3
    refine WpC.seq (WpC.ops tabOk (r := []) (by simp -implicitDefEqProofs [c13, hw1] <;> rfl) rfl ?_)
    refine WpC.ops tabOk (r := []) (by simp -implicitDefEqProofs [c13, hw1] <;> rfl) rfl ?_
    exact ⟨(b, h'), ⟨by simp; omega, by simp; omega, q3.trans (m1.wide (by omega) (by omega)), bl⟩, by simp; omega, Gh.cut' [7, 8, 0, 1, 2, 6] 1 (by simp -implicitDefEqProofs [c13, hw1, c13']) (by simp -implicitDefEqProofs [c13, hw1, c13']) rfl (by simp) (by simp) (by simp)⟩
  · have c13' := c13; first | simp only [dT, dF] at c13' | try simp at c13'
    refine WpC.exit ?_
    refine WpC.seq ?_
    have hbn : ¬ b ≤ n := by simpa using c13
    have hc := insSort_ok cT cS cW cP hcm hcc h n a n q1 (Nat.le_refl _) (by omega) hok1
    refine WpC.region ?_
    refine WpO.run tabOk 4 (by simp -implicitDefEqProofs [c13] <;> first | exact ⟨rfl, rfl⟩ | rfl) ?_
    refine WpO.callP [0] (by simp) rfl (by simp -implicitDefEqProofs [c13] <;> rfl) (by simp -implicitDefEqProofs [c13] <;> rfl) call_45 (by simp) (by simp) (by simp) (by simp -implicitDefEqProofs [c13]) (by simp; rfl) (by simp -implicitDefEqProofs [c13]) ( hc) fun r S1 hr => ?_
    obtain ⟨h', rfl, rfl, m1, t1⟩ := hr
    refine ⟨_, by simp -implicitDefEqProofs [c13] <;> rfl, ?_⟩
    refine WpO.nil ?_
    refine WpC.block ?_
    refine WpC.loopM [0, 1, 2] [6] (fun x => 100 - x.1) ((20, h') : Nat × (Nat → Int)) (fun x => [(6, .d (dI (x.1 : Nat)))]) (fun x => [.arr 3 1 (rowF x.2 n)]) (fun x => Mv 0 n g x.2 ∧ ((x.1 = 20 ∧ Bl c x.2 20 0 n) ∨ (x.1 = 40 ∧ Bl c x.2 40 0 n) ∨ (x.1 = 80 ∧ Srtd c x.2 0 n))) (by simp -implicitDefEqProofs [c13] <;> rfl) (Gh.cut' [6, 0, 1, 2] 1 (by simp -implicitDefEqProofs [c13]) (by simp -implicitDefEqProofs [c13]) rfl (by simp) (by simp) (by simp)) (⟨q3.trans (m1.wide (by omega) (by omega)), .inl ⟨rfl, fun i j i1 i2 i3 i4 => by
by_cases e : j < a
· show ¬ c (h' j) (h' i) < 0
  rw [m1.out i (by omega), m1.out j (by omega)]; exact q4 i j i1 i2 e i4
· exact t1 i j (by omega) i2 i3⟩⟩) ?_
    rintro x hi
    simp only [List.cons_append, List.nil_append]
    obtain ⟨k, f⟩ := x
    obtain ⟨p1, p2⟩ := hi
    simp only at p1 p2 ⊢
    refine WpC.seq ?_
    refine WpC.seq (WpC.ops tabOk (r := []) (by simp -implicitDefEqProofs [c13] <;> rfl) rfl ?_)
    refine WpC.condR (by simp -implicitDefEqProofs [c13] <;> rfl) (by rfl) (fun c30 => ?_) (fun c30 => ?_)
    · have c30' := c30; first | simp only [dT, dF] at c30' | try simp at c30'
      have hkn : k < n := by simpa using c30
      obtain ⟨hk, hbk⟩ : (k = 20 ∨ k = 40) ∧ Bl c f k 0 n := by
        rcases p2 with ⟨rfl, q⟩ | ⟨rfl, q⟩ | ⟨rfl, q⟩
        · exact ⟨.inl rfl, q⟩
        · exact ⟨.inr rfl, q⟩
        · omega
      have hw2 : IntKind.i64.wrap (2 * (k : Int)) = ((2 * k : Nat) : Int) := by rw [wrapI (by omega) (by omega)]; omega
      have hw3 : IntKind.i64.wrap ((k : Int) * 2) = ((2 * k : Nat) : Int) := by rw [wrapI (by omega) (by omega)]; omega
      refine WpC.skip ?_
      refine WpC.block ?_
      refine WpC.seq (WpC.ops tabOk (r := []) (by simp -implicitDefEqProofs [c13, c30, hw2, hw3] <;> rfl) rfl ?_)
      refine WpC.seq ?_
      refine WpC.block ?_
      refine WpC.loopM [0, 1, 2, 6] [7, 8] (fun y => 1000 - y.1) ((0, f) : Nat × (Nat → Int)) (fun y => [(7, .d (dI (y.1 : Nat))), (8, .d (dI ((y.1 + 2 * k : Nat) : Int)))]) (fun y => [.arr 3 1 (rowF y.2 n)]) (fun y => y.1 ≤ n ∧ y.1 % (2 * k) = 0 ∧ Mv 0 n g y.2 ∧ Bl c y.2 (2 * k) 0 y.1 ∧ Bl c y.2 k y.1 n) (by simp -implicitDefEqProofs [c13, c30, hw2, hw3] <;> rfl) (Gh.cut' [7, 8, 0, 1, 2, 6] 1 (by simp -implicitDefEqProofs [c13, c30, hw2, hw3]) (by simp -implicitDefEqProofs [c13, c30, hw2, hw3]) rfl (by simp) (by simp) (by simp)) (⟨by simp, by simp, p1, fun i j i1 i2 i3 => by simp at i3, hbk⟩) ?_
      rintro y hi
      simp only [List.cons_append, List.nil_append]
      obtain ⟨a2, f2⟩ := y
      obtain ⟨p3, p4, p5, p6, p7⟩ := hi
      simp only at p3 p4 p5 p6 p7 ⊢
      obtain ⟨b2, hb2⟩ : ∃ b, a2 + 2 * k = b := ⟨_, rfl⟩
      rw [hb2]
      obtain ⟨m2, hm2⟩ : ∃ b, a2 + k = b := ⟨_, rfl⟩
      have hok2 := p5.okk (Nat.le_refl _) hok
      have hw4 : IntKind.i64.wrap ((a2 : Int) + k) = (m2 : Int) := by rw [wrapI (by omega) (by omega)]; omega
      refine WpC.seq ?_
      refine WpC.seq (WpC.ops tabOk (r := []) (by simp -implicitDefEqProofs [c13, c30, hw2, hw3, hw4] <;> rfl) rfl ?_)
      refine WpC.condR (by simp -implicitDefEqProofs [c13, c30, hw2, hw3, hw4] <;> rfl) (by rfl) (fun c35 => ?_) (fun c35 => ?_)
      · have c35' := c35; first | simp only [dT, dF] at c35' | try simp at c35'
        have hbn : b2 ≤ n := by simpa using c35
        have hw5 : IntKind.i64.wrap ((b2 : Int) + ((2 * k : Nat) : Int)) = ((b2 + 2 * k : Nat) : Int) := by rw [wrapI (by omega) (by omega)]; omega
        have hw6 : IntKind.i64.wrap ((b2 : Int) + 2 * (k : Int)) = (b2 : Int) + 2 * (k : Int) := wrapI (by omega) (by omega)
        have hc := symMerge_ok cT cS cW cP hcm hcc n (by omega) (b2 - a2) f2 a2 m2 b2 (Nat.le_refl _) (by omega) (by omega) hbn hok2 (hm2 ▸ bl_first hk p4 (by omega) p7) (hm2 ▸ bl_next hk p4 hbn (by omega) p7)
        refine WpC.skip ?_
        refine WpC.block ?_
        refine WpC.seq ?_
        refine WpC.region ?_
        refine WpO.run tabOk 7 (by simp -implicitDefEqProofs [c13, c30, hw2, hw3, hw4, c35, hw5, hw6] <;> first | exact ⟨rfl, rfl⟩ | rfl) ?_
        refine WpO.callP [0] (by simp) rfl (by simp -implicitDefEqProofs [c13, c30, hw2, hw3, hw4, c35, hw5, hw6] <;> rfl) (by simp -implicitDefEqProofs [c13, c30, hw2, hw3, hw4, c35, hw5, hw6] <;> rfl) call_46 (by simp) (by simp) (by simp) (by simp -implicitDefEqProofs [c13, c30, hw2, hw3, hw4, c35, hw5, hw6]) (by simp; rfl) (by simp -implicitDefEqProofs [c13, c30, hw2, hw3, hw4, c35, hw5, hw6]) ( hc) fun r S1 hr => ?_
        obtain ⟨f3, rfl, rfl, m3, t3⟩ := hr
        refine ⟨_, by simp -implicitDefEqProofs [c13, c30, hw2, hw3, hw4, c35, hw5, hw6] <;> rfl, ?_⟩
        refine WpO.nil ?_
        refine WpC.seq (WpC.ops tabOk (r := []) (by simp -implicitDefEqProofs [c13, c30, hw2, hw3, hw4, c35, hw5, hw6] <;> rfl) rfl ?_)
        refine WpC.ops tabOk (r := []) (by simp -implicitDefEqProofs [c13, c30, hw2, hw3, hw4, c35, hw5, hw6] <;> rfl) rfl ?_
        exact ⟨(b2, f3), ⟨by simp; omega, by simp only; rcases hk with rfl | rfl <;> omega, p5.trans (m3.wide (by omega) (by omega)), hb2 ▸ bl_done hk p4 p6 (hb2 ▸ m3) (hb2 ▸ t3), bl_rest p7 (by omega) m3⟩, by simp; omega, Gh.cut' [7, 8, 0, 1, 2, 6] 1 (by simp -implicitDefEqProofs [c13, c30, hw2, hw3, hw4, c35, hw5, hw6, c13', c30', c35']) (by simp -implicitDefEqProofs [c13, c30, hw2, hw3, hw4, c35, hw5, hw6, c13', c30', c35']) rfl (by simp) (by simp) (by simp)⟩
      · have c35' := c35; first | simp only [dT, dF] at c35' | try simp at c35'
        refine WpC.exit ?_
        refine WpC.seq ?_
        refine WpC.seq (WpC.ops tabOk (r := []) (by simp -implicitDefEqProofs [c13, c30, hw2, hw3, hw4, c35] <;> rfl) rfl ?_)
        refine WpC.seq (WpC.ops tabOk (r := []) (by simp -implicitDefEqProofs [c13, c30, hw2, hw3, hw4, c35] <;> rfl) rfl ?_)
        refine WpC.condR (by simp -implicitDefEqProofs [c13, c30, hw2, hw3, hw4, c35] <;> rfl) (by rfl) (fun c54 => ?_) (fun c54 => ?_)
        · have c54' := c54; first | simp only [dT, dF] at c54' | try simp at c54'
          have hbn : ¬ b2 ≤ n := by simpa using c35
          have hmn : m2 < n := by simpa using c54
          have hc := symMerge_ok cT cS cW cP hcm hcc n (by omega) (n - a2) f2 a2 m2 n (Nat.le_refl _) (by omega) hmn (Nat.le_refl _) hok2 (hm2 ▸ bl_first hk p4 (by omega) p7) (hm2 ▸ bl_next hk p4 (Nat.le_refl _) (by omega) p7)
          refine WpC.region ?_
          refine WpO.run tabOk 5 (by simp -implicitDefEqProofs [c13, c30, hw2, hw3, hw4, c35, c54] <;> first | exact ⟨rfl, rfl⟩ | rfl) ?_
          refine WpO.callP [0] (by simp) rfl (by simp -implicitDefEqProofs [c13, c30, hw2, hw3, hw4, c35, c54] <;> rfl) (by simp -implicitDefEqProofs [c13, c30, hw2, hw3, hw4, c35, c54] <;> rfl) call_46 (by simp) (by simp) (by simp) (by simp -implicitDefEqProofs [c13, c30, hw2, hw3, hw4, c35, c54]) (by simp; rfl) (by simp -implicitDefEqProofs [c13, c30, hw2, hw3, hw4, c35, c54]) ( hc) fun r S1 hr => ?_
          obtain ⟨f3, rfl, rfl, m3, t3⟩ := hr
          refine ⟨_, by simp -implicitDefEqProofs [c13, c30, hw2, hw3, hw4, c35, c54] <;> rfl, ?_⟩
          refine WpO.nil ?_
          have hbn : ¬ b2 ≤ n := by simpa using c35
          first
          | have bl3 : Bl c f3 (2 * k) 0 n := bl_done hk p4 p6 m3 t3
          | have bl3 : Bl c f2 (2 * k) 0 n := bl_last hk p4 (by simp at c54; omega) p6 p7
          refine WpC.ops tabOk (r := []) (by simp -implicitDefEqProofs [c13, c30, hw2, hw3, hw4, c35, c54] <;> rfl) rfl ?_
          exact ⟨(2 * k, f3), ⟨p5.trans (m3.wide (by omega) (by omega)), by rcases hk with rfl | rfl; exact .inr (.inl ⟨rfl, bl3⟩); exact .inr (.inr ⟨rfl, bl_all (by omega) bl3⟩)⟩, by simp; omega, Gh.cut' [6, 0, 1, 2] 1 (by simp -implicitDefEqProofs [c13, c30, hw2, hw3, hw4, c35, c54, c13', c30', c35', c54']) (by simp -implicitDefEqProofs [c13, c30, hw2, hw3, hw4, c35, c54, c13', c30', c35', c54']) rfl (by simp) (by simp) (by simp)⟩
        · have c54' := c54; first | simp only [dT, dF] at c54' | try simp at c54'
          refine WpC.skip ?_
          have hbn : ¬ b2 ≤ n := by simpa using c35
          first
          | have bl3 : Bl c f3 (2 * k) 0 n := bl_done hk p4 p6 m3 t3
          | have bl3 : Bl c f2 (2 * k) 0 n := bl_last hk p4 (by simp at c54; omega) p6 p7
          refine WpC.ops tabOk (r := []) (by simp -implicitDefEqProofs [c13, c30, hw2, hw3, hw4, c35, c54] <;> rfl) rfl ?_
          exact ⟨(2 * k, f2), ⟨p5, by rcases hk with rfl | rfl; exact .inr (.inl ⟨rfl, bl3⟩); exact .inr (.inr ⟨rfl, bl_all (by omega) bl3⟩)⟩, by simp; omega, Gh.cut' [6, 0, 1, 2] 1 (by simp -implicitDefEqProofs [c13, c30, hw2, hw3, hw4, c35, c54, c13', c30', c35', c54']) (by simp -implicitDefEqProofs [c13, c30, hw2, hw3, hw4, c35, c54, c13', c30', c35', c54']) rfl (by simp) (by simp) (by simp)⟩
    · have c30' := c30; first | simp only [dT, dF] at c30' | try simp at c30'
      refine WpC.exit ?_
      refine ⟨.inl rfl, [], rfl, ?_, by simp⟩
      have hkn : ¬ k < n := by simpa using c30
      exact ⟨f, rfl, rfl, p1, by rcases p2 with ⟨rfl, q⟩ | ⟨rfl, q⟩ | ⟨rfl, q⟩; exact bl_all (by omega) q; exact bl_all (by omega) q; exact q⟩
theorem sortStable_ok (g : Nat → Int) (n : Nat) (hn : n ≤ 60) (hok : AllOk ok g n) :
    WpF Try.prog 19 [.sl 0 n, .fn 20 [.dp [dI cT], .dp [dI cS], .dp [.list 1 cW], .dp [.list 1 cP]]] [.arr 3 1 (rowF g n)]
      fun r S => ∃ h, r = .tup [] ∧ S = [.arr 3 1 (rowF h n)] ∧ Mv 0 n g h ∧ Srtd c h 0 n := by
  have hc := stable_ok cT cS cW cP hcm hcc g n hn hok
  refine WpF.enter tabOk Try.func19 rfl (by show 2 ≤ 9; decide) ?_
  simp only [Try.f19]
  refine WpC.region ?_
  refine WpO.run tabOk 4 (by simp -implicitDefEqProofs <;> first | exact ⟨rfl, rfl⟩ | rfl) ?_
  refine WpO.callP [0] (by simp) rfl (by simp -implicitDefEqProofs <;> rfl) (by simp -implicitDefEqProofs <;> rfl) call_33 (by simp) (by simp) (by simp) (by simp -implicitDefEqProofs) (by simp; rfl) (by simp -implicitDefEqProofs) ( hc) fun r S1 hr => ?_
  obtain ⟨h, rfl, rfl, m1, t1⟩ := hr
  refine ⟨_, by simp -implicitDefEqProofs <;> rfl, ?_⟩
  refine WpO.nil ?_
  refine ⟨.inl rfl, [], rfl, ?_, by simp⟩
  exact ⟨h, rfl, rfl, m1, t1⟩
end
end Go.Proofs.Ytfbpcjkhgiickaa.Pay
