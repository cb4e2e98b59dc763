/- slices.Compact of a row of numbers that rise. No statement of the seed is proved here. -/
import Derived.Test.YtaobnhenjldjeaaGaC
import Derived.Test.YtaobnhenjldjeaaGaB
import Derived.Test.YtaobnhenjldjeaaSpN
namespace Go.Proofs.Ytaobnhenjldjeaa.Pay
open Go Go.RowKit
set_option linter.unusedVariables false
set_option linter.unusedSimpArgs false
set_option linter.unusedSectionVars false

/-- The first m numbers of h rise, and are just those of g's first n. -/
structure Kept (g h : Nat → Int) (n m : Nat) : Prop where
  up : ∀ i j, i < j → j < m → h i < h j
  all : ∀ i, i < n → ∃ j, j < m ∧ h j = g i
  some : ∀ j, j < m → ∃ i, i < n ∧ h j = g i
theorem Kept.none (g : Nat → Int) : Kept g g 0 0 := ⟨fun _ _ _ h => by omega, fun _ h => by omega, fun _ h => by omega⟩
theorem Kept.first {g : Nat → Int} {n k : Nat} (hs : Srtd cI g 0 n) (hk : k ≤ n) (hne : ∀ i, 0 < i → i < k → g i ≠ g (i - 1)) : Kept g g k k := by
  refine ⟨fun i j hij hj => ?_, fun i hi => ⟨i, hi, rfl⟩, fun i hi => ⟨i, hi, rfl⟩⟩
  have h1 : g (j - 1) < g j := by
    have h2 := hs (j - 1) j (Nat.zero_le _) (by omega) (by omega)
    rw [cI_lt] at h2
    have h3 := hne j (by omega) hj
    omega
  by_cases e : i = j - 1
  · rw [e]; exact h1
  · have h2 := hs i (j - 1) (Nat.zero_le _) (by omega) (by omega)
    rw [cI_lt] at h2
    omega
theorem Kept.same {g h : Nat → Int} {n m : Nat} (k : Kept g h n m) (hm : 0 < m) (hl : h (m - 1) = g (n - 1)) (he : g n = g (n - 1)) : Kept g h (n + 1) m :=
  ⟨k.up, fun i hi => by
    by_cases e : i = n
    · exact ⟨m - 1, by omega, by rw [e, he, hl]⟩
    · exact k.all i (by omega), fun j hj => by
    obtain ⟨i, hi, e⟩ := k.some j hj
    exact ⟨i, by omega, e⟩⟩
theorem Kept.next {g h : Nat → Int} {n m : Nat} (k : Kept g h n m) (hm : 0 < m) (hl : h (m - 1) = g (n - 1)) (he : g (n - 1) < g n) : Kept g (upd h m (g n)) (n + 1) (m + 1) := by
  have hu : ∀ i, i < m → upd h m (g n) i = h i := fun i hi => if_neg (by omega)
  have hm' : upd h m (g n) m = g n := if_pos rfl
  refine ⟨fun i j hij hj => ?_, fun i hi => ?_, fun j hj => ?_⟩
  · by_cases e : j = m
    · subst e
      rw [hm', hu i hij]
      by_cases e2 : i = j - 1
      · rw [e2, hl]; exact he
      · have := k.up i (j - 1) (by omega) (by omega)
        omega
    · rw [hu i (by omega), hu j (by omega)]; exact k.up i j hij (by omega)
  · by_cases e : i = n
    · exact ⟨m, by omega, by rw [hm', e]⟩
    · obtain ⟨j, hj, e2⟩ := k.all i (by omega)
      exact ⟨j, by omega, by rw [hu j hj, e2]⟩
  · by_cases e : j = m
    · exact ⟨n, by omega, by rw [e, hm']⟩
    · obtain ⟨i, hi, e2⟩ := k.some j (by omega)
      exact ⟨i, by omega, by rw [hu j (by omega), e2]⟩
theorem Kept.cut {g h : Nat → Int} {n m : Nat} (k : Kept g h n m) : Kept g (pk h m) n m := by
  have hp : ∀ i, i < m → pk h m i = h i := fun i hi => if_pos hi
  refine ⟨fun i j hij hj => ?_, fun i hi => ?_, fun j hj => ?_⟩
  · rw [hp i (by omega), hp j hj]; exact k.up i j hij hj
  · obtain ⟨j, hj, e⟩ := k.all i hi
    exact ⟨j, hj, by rw [hp j hj, e]⟩
  · obtain ⟨i, hi, e⟩ := k.some j hj
    exact ⟨i, hi, by rw [hp j hj, e]⟩
theorem row_cut (h : Nat → Int) {k n : Nat} (hk : k ≤ n) : (rowF h n).take k ++ List.replicate (n - k) (D.int .i64 0) = rowF (pk h k) n := by
  apply List.ext_getElem?
  intro i
  by_cases hi : i < n
  · rw [rowF_get hi]
    by_cases h1 : i < k
    · rw [List.getElem?_append_left (by simp; omega), List.getElem?_take_of_lt h1, rowF_get hi]; simp [pk, h1]
    · rw [List.getElem?_append_right (by simp; omega), List.getElem?_replicate, if_pos (by simp; omega)]; simp [pk, h1]
  · rw [List.getElem?_eq_none (by simp; omega), List.getElem?_eq_none (by simp; omega)]

set_option maxHeartbeats 4000000 in
theorem compact_ok (g : Nat → Int) (n : Nat) (hn : n ≤ 12) (hs : Srtd cI g 0 n) :
    WpF Try.prog 27 [.sl 0 n] [.arr 3 1 (rowF g n)]
      fun r S => ∃ h m, m ≤ n ∧ r = .sl 0 m ∧ S = [.arr 3 1 (rowF h n)] ∧ Kept g h n m := by
  refine WpF.enter tabOk Try.func27 rfl (by show 1 ≤ 61; decide) ?_
  simp only [Try.f27]
  refine WpC.seq (WpC.ops tabOk (r := []) (by simp -implicitDefEqProofs <;> rfl) rfl ?_)
  refine WpC.seq ?_
  refine WpC.seq (WpC.ops tabOk (r := []) (by simp -implicitDefEqProofs <;> rfl) rfl ?_)
  refine WpC.condD ((n : Int) < 2) (by simp -implicitDefEqProofs) (fun d8 => ?_) (fun d8 => ?_)
  · refine WpC.seq (WpC.ops tabOk (r := []) (by simp -implicitDefEqProofs [d8] <;> rfl) rfl ?_)
    refine WpC.ret ?_
    refine ⟨.inr rfl, _, by simp -implicitDefEqProofs <;> rfl, ?_, by simp⟩
    exact ⟨g, n, Nat.le_refl _, rfl, rfl, Kept.first hs (Nat.le_refl _) fun i q1 q2 => by omega⟩
  · have hn2 : 2 ≤ n := by omega
    refine WpC.skip ?_
    refine WpC.seq ?_
    refine WpC.seq (WpC.ops tabOk (r := []) (by simp -implicitDefEqProofs [d8] <;> rfl) rfl ?_)
    refine WpC.block ?_
    refine WpC.loopM [0] [3] (fun x => n - x) (1 : Nat) (fun x => [(3, .d (dI (x : Nat)))]) (fun x => [.arr 3 1 (rowF g n)]) (fun x => 1 ≤ x ∧ x ≤ n ∧ ∀ i, 0 < i → i < x → g i ≠ g (i - 1)) (by simp -implicitDefEqProofs [d8] <;> rfl) (Gh.cut' [3, 0] 1 (by simp -implicitDefEqProofs [d8]) (by simp -implicitDefEqProofs [d8]) rfl (by simp) (by simp) (by simp)) (⟨by simp, by omega, fun i h1 h2 => by omega⟩) ?_
    rintro x hi
    simp only [List.cons_append, List.nil_append]
    refine WpC.seq ?_
    refine WpC.seq (WpC.ops tabOk (r := []) (by simp -implicitDefEqProofs [d8] <;> rfl) rfl ?_)
    refine WpC.condR (by simp -implicitDefEqProofs [d8] <;> rfl) (by rfl) (fun c13 => ?_) (fun c13 => ?_)
    · have c13' := c13; first | simp only [dT, dF] at c13' | try simp at c13'
      have hxn : x < n := by simpa using c13
      obtain ⟨p, hp⟩ : ∃ p, x = p + 1 := ⟨x - 1, by omega⟩
      subst hp
      have hpq : p + 1 - 1 = p := by omega
      have hw1 : IntKind.i64.wrap (((p + 1 : Nat) : Int) - 1) = (p : Int) := by rw [wrapI (by omega) (by omega)]; omega
      have hw2 : IntKind.i64.wrap ((p : Int)) = (p : Int) := wrapI (by omega) (by omega)
      have hw3 : IntKind.i64.wrap ((p : Int) + 1 + 1) = (p : Int) + 2 := by rw [wrapI (by omega) (by omega)]; omega
      have hpn : p < n := by omega
      have hp0 : p + 1 < n := by omega
      have hp5 : p + 1 ≤ n := by omega
      have hp1 : (p : Int) + 1 < n := by omega
      have hp2 : (0 : Int) ≤ (p : Int) + 1 := by omega
      have hp3 : (p : Int) + 1 ≤ n := by omega
      refine WpC.skip ?_
      refine WpC.seq ?_
      refine WpC.block ?_
      refine WpC.seq (WpC.drawn tabOk (by kernel_rfl) 0 (by simp) ?_)
      refine DrO.run (fz := []) 3 (by simp -implicitDefEqProofs [d8, c13, hpq, hp0, hp5, hw1, hw2, hw3, hpn, hp1, hp2, hp3] <;> first | exact ⟨rfl, rfl, rfl, rfl⟩ | rfl) ?_
      refine DrO.run (fz := []) 3 (by simp -implicitDefEqProofs [d8, c13, hpq, hp0, hp5, hw1, hw2, hw3, hpn, hp1, hp2, hp3] <;> first | exact ⟨rfl, rfl, rfl, rfl⟩ | rfl) ?_
      refine DrO.run (fz := []) 3 (by simp -implicitDefEqProofs [d8, c13, hpq, hp0, hp5, hw1, hw2, hw3, hpn, hp1, hp2, hp3] <;> first | exact ⟨rfl, rfl, rfl, rfl⟩ | rfl) ?_
      refine DrO.run (fz := []) 1 (by simp -implicitDefEqProofs [d8, c13, hpq, hp0, hp5, hw1, hw2, hw3, hpn, hp1, hp2, hp3] <;> first | exact ⟨rfl, rfl, rfl, rfl⟩ | rfl) ?_
      refine DrO.nil ⟨by kernel_rfl, ?_⟩
      refine WpC.condD (g (p + 1) = g p) (by simp -implicitDefEqProofs [d8, c13, hpq, hp0, hp5, hw1, hw2, hw3, hpn, hp1, hp2, hp3]) (fun d25 => ?_) (fun d25 => ?_)
      · have hk0 := (Kept.first hs (show p + 1 ≤ n by omega) hi.2.2).same (Nat.succ_pos p) rfl (show g (p + 1) = g (p + 1 - 1) by rw [hpq]; exact d25)
        refine WpC.seq (WpC.ops tabOk (r := []) (by simp -implicitDefEqProofs [d8, c13, hpq, hp0, hp5, hw1, hw2, hw3, hpn, hp1, hp2, hp3, d25] <;> rfl) rfl ?_)
        refine WpC.seq ?_
        refine WpC.seq (WpC.ops tabOk (r := []) (by simp -implicitDefEqProofs [d8, c13, hpq, hp0, hp5, hw1, hw2, hw3, hpn, hp1, hp2, hp3, d25] <;> rfl) rfl ?_)
        refine WpC.block ?_
        refine WpC.loopM [0, 4] [3, 5] (fun y => n - y.1) ((1, p + 1, g) : Nat × Nat × (Nat → Int)) (fun y => [(3, .d (dI (y.2.1 : Nat))), (5, .d (dI (y.1 : Nat)))]) (fun y => [.arr 3 1 (rowF y.2.2 n)]) (fun y => 1 ≤ y.1 ∧ p + 1 + y.1 ≤ n ∧ y.2.1 ≤ p + y.1 ∧ 0 < y.2.1 ∧ y.2.2 (y.2.1 - 1) = g (p + y.1) ∧ (∀ i, p + y.1 ≤ i → y.2.2 i = g i) ∧ Kept g y.2.2 (p + 1 + y.1) y.2.1) (by simp -implicitDefEqProofs [d8, c13, hpq, hp0, hp5, hw1, hw2, hw3, hpn, hp1, hp2, hp3, d25] <;> rfl) (Gh.cut' [3, 5, 0, 4] 1 (by simp -implicitDefEqProofs [d8, c13, hpq, hp0, hp5, hw1, hw2, hw3, hpn, hp1, hp2, hp3, d25]) (by simp -implicitDefEqProofs [d8, c13, hpq, hp0, hp5, hw1, hw2, hw3, hpn, hp1, hp2, hp3, d25]) rfl (by simp) (by simp) (by simp)) (⟨by simp, by simp; omega, by simp, by simp, d25.symm, fun i _ => rfl, hk0⟩) ?_
        rintro y hi
        simp only [List.cons_append, List.nil_append]
        obtain ⟨c, k, h⟩ := y
        obtain ⟨i1, i2, i3, i4, i5, i6, i7⟩ := hi
        simp only at i1 i2 i3 i4 i5 i6 i7 ⊢
        refine WpC.seq ?_
        refine WpC.seq (WpC.ops tabOk (r := []) (by simp -implicitDefEqProofs [d8, c13, hpq, hp0, hp5, hw1, hw2, hw3, hpn, hp1, hp2, hp3, d25] <;> rfl) rfl ?_)
        refine WpC.condR (by simp -implicitDefEqProofs [d8, c13, hpq, hp0, hp5, hw1, hw2, hw3, hpn, hp1, hp2, hp3, d25] <;> rfl) (by rfl) (fun c32 => ?_) (fun c32 => ?_)
        · have c32' := c32; first | simp only [dT, dF] at c32' | try simp at c32'
          have hcn : c < n - (p + 1) := by simpa using c32
          obtain ⟨c1, hc1⟩ : ∃ c1, c = c1 + 1 := ⟨c - 1, by omega⟩
          subst hc1
          have v1 : IntKind.i64.wrap ((c1 : Int)) = (c1 : Int) := wrapI (by omega) (by omega)
          have v2 : IntKind.i64.wrap ((c1 : Int) + 1 + 1) = (c1 : Int) + 1 + 1 := wrapI (by omega) (by omega)
          have v3 : IntKind.i64.wrap ((k : Int) + 1) = (k : Int) + 1 := wrapI (by omega) (by omega)
          have v4 : c1 < n - (p + 1) := by omega
          have v5 : (0 : Int) ≤ (c1 : Int) + 1 := by omega
          have v6 : (c1 : Int) + 1 < ((n - (p + 1) : Nat) : Int) := by omega
          have v7 : c1 + 1 < n - (p + 1) := by omega
          have v8 : p + 1 + (c1 + 1) < n := by omega
          have v9 : p + 1 + c1 < n := by omega
          have v10 : k < n := by omega
          have v11 : h (p + 1 + (c1 + 1)) = g (p + 1 + (c1 + 1)) := i6 _ (by omega)
          have v12 : h (p + 1 + c1) = g (p + 1 + c1) := i6 _ (by omega)
          refine WpC.skip ?_
          refine WpC.seq ?_
          refine WpC.block ?_
          refine WpC.seq (WpC.drawn tabOk (by kernel_rfl) 0 (by simp) ?_)
          refine DrO.run (fz := []) 3 (by simp -implicitDefEqProofs [d8, c13, hpq, hp0, hp5, hw1, hw2, hw3, hpn, hp1, hp2, hp3, d25, c32, v1, v2, v3, v4, v5, v6, v7, v8, v9, v10, v11, v12] <;> first | exact ⟨rfl, rfl, rfl, rfl⟩ | rfl) ?_
          refine DrO.run (fz := []) 3 (by simp -implicitDefEqProofs [d8, c13, hpq, hp0, hp5, hw1, hw2, hw3, hpn, hp1, hp2, hp3, d25, c32, v1, v2, v3, v4, v5, v6, v7, v8, v9, v10, v11, v12] <;> first | exact ⟨rfl, rfl, rfl, rfl⟩ | rfl) ?_
          refine DrO.run (fz := []) 3 (by simp -implicitDefEqProofs [d8, c13, hpq, hp0, hp5, hw1, hw2, hw3, hpn, hp1, hp2, hp3, d25, c32, v1, v2, v3, v4, v5, v6, v7, v8, v9, v10, v11, v12] <;> first | exact ⟨rfl, rfl, rfl, rfl⟩ | rfl) ?_
          refine DrO.run (fz := []) 1 (by simp -implicitDefEqProofs [d8, c13, hpq, hp0, hp5, hw1, hw2, hw3, hpn, hp1, hp2, hp3, d25, c32, v1, v2, v3, v4, v5, v6, v7, v8, v9, v10, v11, v12] <;> first | exact ⟨rfl, rfl, rfl, rfl⟩ | rfl) ?_
          refine DrO.nil ⟨by kernel_rfl, ?_⟩
          refine WpC.condD (g (p + 1 + (c1 + 1)) ≠ g (p + 1 + c1)) (by simp -implicitDefEqProofs [d8, c13, hpq, hp0, hp5, hw1, hw2, hw3, hpn, hp1, hp2, hp3, d25, c32, v1, v2, v3, v4, v5, v6, v7, v8, v9, v10, v11, v12]) (fun d44 => ?_) (fun d44 => ?_)
          · have hlt : g (p + 1 + (c1 + 1) - 1) < g (p + 1 + (c1 + 1)) := by
              have q := hs (p + 1 + c1) (p + 1 + (c1 + 1)) (Nat.zero_le _) (by omega) (by omega)
              rw [cI_lt] at q
              rw [show p + 1 + (c1 + 1) - 1 = p + 1 + c1 by omega]
              omega
            have hpe : p + (c1 + 1) = p + 1 + (c1 + 1) - 1 := by omega
            have hke := i7.next i4 (by rw [i5, hpe]) hlt
            have hu1 : upd h k (g (p + 1 + (c1 + 1))) (k + 1 - 1) = g (p + (c1 + 1 + 1)) := by rw [show k + 1 - 1 = k by omega, show p + (c1 + 1 + 1) = p + 1 + (c1 + 1) by omega]; exact if_pos rfl
            have hu2 : ∀ i, p + (c1 + 1 + 1) ≤ i → upd h k (g (p + 1 + (c1 + 1))) i = g i := fun i q => (if_neg (by omega)).trans (i6 i (by omega))
            refine WpC.seq (WpC.ops tabOk (r := []) (by simp -implicitDefEqProofs [d8, c13, hpq, hp0, hp5, hw1, hw2, hw3, hpn, hp1, hp2, hp3, d25, c32, v1, v2, v3, v4, v5, v6, v7, v8, v9, v10, v11, v12, d44] <;> rfl) rfl ?_)
            refine WpC.ops tabOk (r := []) (by simp -implicitDefEqProofs [d8, c13, hpq, hp0, hp5, hw1, hw2, hw3, hpn, hp1, hp2, hp3, d25, c32, v1, v2, v3, v4, v5, v6, v7, v8, v9, v10, v11, v12, d44] <;> rfl) rfl ?_
            refine WpC.ops tabOk (r := []) (by simp -implicitDefEqProofs [d8, c13, hpq, hp0, hp5, hw1, hw2, hw3, hpn, hp1, hp2, hp3, d25, c32, v1, v2, v3, v4, v5, v6, v7, v8, v9, v10, v11, v12, d44] <;> rfl) rfl ?_
            exact ⟨(c1 + 1 + 1, k + 1, upd h k (g (p + 1 + (c1 + 1)))), ⟨by simp, by simp; omega, by simp; omega, by simp, hu1, hu2, hke⟩, by simp; omega, Gh.cut' [3, 5, 0, 4] 1 (by simp -implicitDefEqProofs [d8, c13, hpq, hp0, hp5, hw1, hw2, hw3, hpn, hp1, hp2, hp3, d25, c32, v1, v2, v3, v4, v5, v6, v7, v8, v9, v10, v11, v12, d44, c13', c32']) (by simp -implicitDefEqProofs [d8, c13, hpq, hp0, hp5, hw1, hw2, hw3, hpn, hp1, hp2, hp3, d25, c32, v1, v2, v3, v4, v5, v6, v7, v8, v9, v10, v11, v12, d44, c13', c32']) rfl (by simp) (by simp) (by simp)⟩
          · have hee : g (p + 1 + (c1 + 1)) = g (p + 1 + c1) := Classical.not_not.1 d44
            have hpe : p + (c1 + 1) = p + 1 + (c1 + 1) - 1 := by omega
            have hke := i7.same i4 (by rw [i5, hpe]) (by rw [show p + 1 + (c1 + 1) - 1 = p + 1 + c1 by omega]; exact hee)
            have hu1 : h (k - 1) = g (p + (c1 + 1 + 1)) := by rw [i5, show p + (c1 + 1 + 1) = p + 1 + (c1 + 1) by omega, hee, show p + (c1 + 1) = p + 1 + c1 by omega]
            refine WpC.skip ?_
            refine WpC.ops tabOk (r := []) (by simp -implicitDefEqProofs [d8, c13, hpq, hp0, hp5, hw1, hw2, hw3, hpn, hp1, hp2, hp3, d25, c32, v1, v2, v3, v4, v5, v6, v7, v8, v9, v10, v11, v12, d44] <;> rfl) rfl ?_
            exact ⟨(c1 + 1 + 1, k, h), ⟨by simp, by simp; omega, by simp; omega, i4, hu1, fun i q => i6 i (by simp at q; omega), hke⟩, by simp; omega, Gh.cut' [3, 5, 0, 4] 1 (by simp -implicitDefEqProofs [d8, c13, hpq, hp0, hp5, hw1, hw2, hw3, hpn, hp1, hp2, hp3, d25, c32, v1, v2, v3, v4, v5, v6, v7, v8, v9, v10, v11, v12, d44, c13', c32']) (by simp -implicitDefEqProofs [d8, c13, hpq, hp0, hp5, hw1, hw2, hw3, hpn, hp1, hp2, hp3, d25, c32, v1, v2, v3, v4, v5, v6, v7, v8, v9, v10, v11, v12, d44, c13', c32']) rfl (by simp) (by simp) (by simp)⟩
        · have c32' := c32; first | simp only [dT, dF] at c32' | try simp at c32'
          refine WpC.exit ?_
          refine WpC.seq ?_
          have hcn : ¬ c < n - (p + 1) := by simpa using c32
          have hcn2 : p + 1 + c = n := by omega
          have hkn : k ≤ n := by omega
          have hkn2 : (k : Int) ≤ n := by omega
          have hrc := row_cut h hkn
          rw [hcn2] at i7
          have hke := i7.cut
          refine WpC.region ?_
          refine WpO.run tabOk 3 (by simp -implicitDefEqProofs [hkn, hkn2] <;> first | exact ⟨rfl, rfl⟩ | rfl) ?_
          refine WpO.step (by simp) (OpOk.clear (id := 0) (off := k) (n := n - k) (xs := rowF h n) tabOk rfl (by simp) tab_24 rfl tab_3 rfl (by simp) (by omega) (by simp; omega) (by simp; rfl)) ?_
          refine WpO.nil ?_
          refine WpC.seq (WpC.ops tabOk (r := []) (by simp -implicitDefEqProofs [d8, c13, hpq, hp0, hp5, hw1, hw2, hw3, hpn, hp1, hp2, hp3, d25, c32, hkn, hkn2, hrc] <;> rfl) rfl ?_)
          refine WpC.ret ?_
          refine ⟨.inr rfl, _, by simp -implicitDefEqProofs <;> rfl, ?_, by simp⟩
          exact ⟨pk h k, k, hkn, rfl, by simp [← hrc], hke⟩
      · refine WpC.skip ?_
        refine WpC.ops tabOk (r := []) (by simp -implicitDefEqProofs [d8, c13, hpq, hp0, hp5, hw1, hw2, hw3, hpn, hp1, hp2, hp3, d25] <;> rfl) rfl ?_
        exact ⟨p + 2, ⟨by omega, by omega, fun i h1 h2 => by rcases Nat.lt_or_ge i (p + 1) with q | q; exact hi.2.2 i h1 q; rw [show i = p + 1 by omega, hpq]; exact d25⟩, by omega, Gh.cut' [3, 0] 1 (by simp -implicitDefEqProofs [d8, c13, hpq, hp0, hp5, hw1, hw2, hw3, hpn, hp1, hp2, hp3, d25, c13']) (by simp -implicitDefEqProofs [d8, c13, hpq, hp0, hp5, hw1, hw2, hw3, hpn, hp1, hp2, hp3, d25, c13']) rfl (by simp) (by simp) (by simp)⟩
    · have c13' := c13; first | simp only [dT, dF] at c13' | try simp at c13'
      refine WpC.exit ?_
      refine WpC.seq (WpC.ops tabOk (r := []) (by simp -implicitDefEqProofs [d8, c13] <;> rfl) rfl ?_)
      have hxn : x = n := by simp at c13; omega
      refine WpC.ret ?_
      refine ⟨.inr rfl, _, by simp -implicitDefEqProofs <;> rfl, ?_, by simp⟩
      exact ⟨g, n, Nat.le_refl _, rfl, rfl, Kept.first hs (Nat.le_refl _) (hxn ▸ hi.2.2)⟩
end Go.Proofs.Ytaobnhenjldjeaa.Pay
