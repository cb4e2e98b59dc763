/- slices.Sort at twelve numbers or fewer. No statement of the seed is proved here. -/
import Derived.Test.YtaobnhenjldjeaaSpG
import Derived.Test.YtaobnhenjldjeaaSpB
namespace Go.Proofs.Ytaobnhenjldjeaa.Pay
open Go Go.RowKit
set_option linter.unusedVariables false
set_option linter.unusedSimpArgs false
set_option linter.unusedSectionVars false

theorem isNaN_ok (x : Int) : Gives Try.prog 81 [.d (dI x)] (.d (.bool false)) := by
  refine Gives.enter tabOk Try.func81 rfl (by show 1 ≤ 6; decide) ?_
  simp only [Try.f81]
  refine WpC.seq (WpC.ops tabOk (r := []) (by simp -implicitDefEqProofs <;> rfl) rfl ?_)
  refine WpC.seq (WpC.ops tabOk (r := []) (by simp -implicitDefEqProofs <;> rfl) rfl ?_)
  refine WpC.ret ?_
  try simp only [blockQ, seqQ]
  refine retD_i (by simp -implicitDefEqProofs <;> rfl) (by simp -implicitDefEqProofs <;> rfl) ?_
  simp -implicitDefEqProofs
theorem cless_ok (x y : Int) : Gives Try.prog 65 [.d (dI x), .d (dI y)] (.d (.bool (decide (x < y)))) := by
  refine Gives.enter tabOk Try.func65 rfl (by show 2 ≤ 17; decide) ?_
  simp only [Try.f65]
  refine WpC.seq (WpC.ops tabOk (r := []) (by simp -implicitDefEqProofs <;> rfl) rfl ?_)
  refine WpC.seq ?_
  refine WpC.region ?_
  refine WpO.run tabOk 1 (by simp -implicitDefEqProofs <;> first | exact ⟨rfl, rfl⟩ | rfl) ?_
  refine WpO.data (by simp) rfl (by simp -implicitDefEqProofs <;> rfl) (by simp -implicitDefEqProofs <;> rfl) (by simp -implicitDefEqProofs <;> rfl) call_81 (by simp) (isNaN_ok x) (by rfl) (by simp -implicitDefEqProofs <;> rfl) ?_
  refine WpO.run tabOk 1 (by simp -implicitDefEqProofs <;> first | exact ⟨rfl, rfl⟩ | rfl) ?_
  refine WpO.splitB 7 (by simp -implicitDefEqProofs <;> rfl) (by rfl) (fun g7 => ?_) (fun g7 => ?_)
  · try (exfalso; revert g7; simp; done)
    all_goals
      have g7' := g7; first | simp only [dT, dF] at g7' | try simp at g7'
      refine WpO.run tabOk 1 (by simp -implicitDefEqProofs [g7] <;> first | exact ⟨rfl, rfl⟩ | rfl) ?_
      refine WpO.data (by simp) rfl (by simp -implicitDefEqProofs [g7] <;> rfl) (by simp -implicitDefEqProofs [g7] <;> rfl) (by simp -implicitDefEqProofs [g7] <;> rfl) call_81 (by simp) (isNaN_ok y) (by rfl) (by simp -implicitDefEqProofs [g7] <;> rfl) ?_
      refine WpO.run tabOk 3 (by simp -implicitDefEqProofs [g7] <;> first | exact ⟨rfl, rfl⟩ | rfl) ?_
      refine WpO.splitB 12 (by simp -implicitDefEqProofs [g7] <;> rfl) (by rfl) (fun g12 => ?_) (fun g12 => ?_)
      · try (exfalso; revert g12; simp; done)
        all_goals
          have g12' := g12; first | simp only [dT, dF] at g12' | try simp at g12'
          refine WpO.run tabOk 5 (by simp -implicitDefEqProofs [g7, g12] <;> first | exact ⟨rfl, rfl⟩ | rfl) ?_
          refine WpO.nil ?_
          refine WpC.ret ?_
          try simp only [blockQ, seqQ]
          refine retD_i (by simp -implicitDefEqProofs [g7, g12] <;> rfl) (by simp -implicitDefEqProofs [g7, g12] <;> rfl) ?_
          simp -implicitDefEqProofs [g7, g12]
      · try (exfalso; revert g12; simp; done)
        all_goals
          have g12' := g12; first | simp only [dT, dF] at g12' | try simp at g12'
          refine WpO.run tabOk 5 (by simp -implicitDefEqProofs [g7, g12] <;> first | exact ⟨rfl, rfl⟩ | rfl) ?_
          refine WpO.nil ?_
          refine WpC.ret ?_
          try simp only [blockQ, seqQ]
          refine retD_i (by simp -implicitDefEqProofs [g7, g12] <;> rfl) (by simp -implicitDefEqProofs [g7, g12] <;> rfl) ?_
          simp -implicitDefEqProofs [g7, g12]
  · try (exfalso; revert g7; simp; done)
    all_goals
      have g7' := g7; first | simp only [dT, dF] at g7' | try simp at g7'
      refine WpO.run tabOk 10 (by simp -implicitDefEqProofs [g7] <;> first | exact ⟨rfl, rfl⟩ | rfl) ?_
      refine WpO.nil ?_
      refine WpC.ret ?_
      try simp only [blockQ, seqQ]
      refine retD_i (by simp -implicitDefEqProofs [g7] <;> rfl) (by simp -implicitDefEqProofs [g7] <;> rfl) ?_
      simp -implicitDefEqProofs [g7]
/-- What was there is still there. -/
def Rch (a b : Nat) (g h : Nat → Int) : Prop := ∀ i, a ≤ i → i < b → ∃ j, a ≤ j ∧ j < b ∧ h j = g i
theorem Rch.refl (a b : Nat) (g : Nat → Int) : Rch a b g g := fun i h1 h2 => ⟨i, h1, h2, rfl⟩
theorem Rch.trans {a b : Nat} {g h k : Nat → Int} (x : Rch a b g h) (y : Rch a b h k) : Rch a b g k := fun i h1 h2 => by
  obtain ⟨j, j1, j2, e⟩ := x i h1 h2
  obtain ⟨l, l1, l2, e2⟩ := y j j1 j2
  exact ⟨l, l1, l2, e2.trans e⟩
theorem Rch.sw {a b i j : Nat} (g : Nat → Int) (h1 : a ≤ i) (h2 : i < b) (h3 : a ≤ j) (h4 : j < b) : Rch a b g (sw g i j) := fun k k1 k2 => by
  by_cases e1 : k = i
  · exact ⟨j, h3, h4, by rw [sw_at, if_pos rfl, e1]⟩
  · by_cases e2 : k = j
    · exact ⟨i, h1, h2, by rw [sw_at, if_pos rfl, e2]; split <;> simp_all⟩
    · exact ⟨k, k1, k2, by rw [sw_at, if_neg e2, if_neg e1]⟩
def cI (x y : Int) : Int := x - y
theorem cI_cmp : Cmp cI fun _ => True := ⟨fun x y _ _ h => by unfold cI at *; omega, fun x y z _ _ _ h1 h2 => by unfold cI at *; omega, fun x y _ _ h => by unfold cI; omega⟩
theorem cI_lt (x y : Int) : cI x y < 0 ↔ x < y := by unfold cI; omega
set_option maxHeartbeats 4000000 in
theorem insO_ok (g : Nat → Int) (n a b : Nat) (h1 : a ≤ b) (h2 : b ≤ n) (hn : n ≤ 1000000) :
    WpF Try.prog 59 [.sl 0 n, .d (dI a), .d (dI b)] [.arr 3 1 (rowF g n)]
      fun r S => ∃ h, r = .tup [] ∧ S = [.arr 3 1 (rowF h n)] ∧ Mv a b g h ∧ Rch a b g h ∧ Srtd cI h a b := by
  have hw0 : IntKind.i64.wrap ((a : Int) + 1) = ((a + 1 : Nat) : Int) := by rw [wrapI (by omega) (by omega)]; omega
  refine WpF.enter tabOk Try.func59 rfl (by show 3 ≤ 49; decide) ?_
  simp only [Try.f59]
  refine WpC.seq (WpC.ops tabOk (r := []) (by simp -implicitDefEqProofs [hw0] <;> rfl) rfl ?_)
  refine WpC.block ?_
  refine WpC.loopM [0, 1, 2] [6] (fun x => b - x.1) ((a + 1, g) : Nat × (Nat → Int)) (fun x => [(6, .d (dI (x.1 : Nat)))]) (fun x => [.arr 3 1 (rowF x.2 n)]) (fun x => a + 1 ≤ x.1 ∧ x.1 ≤ b + 1 ∧ Mv a b g x.2 ∧ Rch a b g x.2 ∧ Srtd cI x.2 a x.1) (by simp -implicitDefEqProofs [hw0] <;> rfl) (Gh.cut' [6, 0, 1, 2] 1 (by simp -implicitDefEqProofs [hw0]) (by simp -implicitDefEqProofs [hw0]) rfl (by simp) (by simp) (by simp)) (⟨by simp, by simp; omega, Mv.refl _ _ _, Rch.refl _ _ _, fun i j i1 i2 i3 => by simp at i3; omega⟩) ?_
  rintro x hi
  simp only [List.cons_append, List.nil_append]
  obtain ⟨i, h⟩ := x
  obtain ⟨h3, h4, h5, h7, h6⟩ := hi
  simp only at h3 h4 h5 h6 h7 ⊢
  refine WpC.seq ?_
  refine WpC.seq (WpC.ops tabOk (r := []) (by simp -implicitDefEqProofs [hw0] <;> rfl) rfl ?_)
  refine WpC.condR (by simp -implicitDefEqProofs [hw0] <;> rfl) (by rfl) (fun c12 => ?_) (fun c12 => ?_)
  · have c12' := c12; first | simp only [dT, dF] at c12' | try simp at c12'
    have hib : i < b := by simpa using c12
    have hw1 : IntKind.i64.wrap ((i : Int) + 1) = ((i + 1 : Nat) : Int) := by rw [wrapI (by omega) (by omega)]; omega
    refine WpC.skip ?_
    refine WpC.seq ?_
    refine WpC.block ?_
    refine WpC.seq (WpC.ops tabOk (r := []) (by simp -implicitDefEqProofs [hw0, c12, hw1] <;> rfl) rfl ?_)
    refine WpC.block ?_
    refine WpC.loopM [0, 1, 2, 6] [7] (fun y => y.1) ((i, h) : Nat × (Nat → Int)) (fun y => [(7, .d (dI (y.1 : Nat)))]) (fun y => [.arr 3 1 (rowF y.2 n)]) (fun y => a ≤ y.1 ∧ y.1 ≤ i ∧ Mv a b g y.2 ∧ Rch a b g y.2 ∧ InsI cI y.2 a i y.1) (by simp -implicitDefEqProofs [hw0, c12, hw1] <;> rfl) (Gh.cut' [7, 0, 1, 2, 6] 1 (by simp -implicitDefEqProofs [hw0, c12, hw1]) (by simp -implicitDefEqProofs [hw0, c12, hw1]) rfl (by simp) (by simp) (by simp)) (⟨by simp; omega, by simp, h5, h7, ins_begin h6⟩) ?_
    rintro y hi
    simp only [List.cons_append, List.nil_append]
    obtain ⟨j, h'⟩ := y
    obtain ⟨h3', h4', h5', h7', h6'⟩ := hi
    simp only at h3' h4' h5' h6' h7' ⊢
    obtain ⟨q, hq⟩ : ∃ q, j - 1 = q := ⟨_, rfl⟩
    have hok' : AllOk (fun _ => True) h' n := fun _ _ => trivial
    have hjn : j < n := by omega
    have hqn : q < n := by omega
    refine WpC.seq ?_
    refine WpC.seq ?_
    refine WpC.val 30 (.d (.bool (decide (a < j ∧ h' j < h' q)))) ?_ ?_
    · refine WpC.drawn tabOk (by kernel_rfl) 0 (by simp) ?_
      refine DrO.run (fz := []) 3 (by simp -implicitDefEqProofs [hw0, c12, hw1] <;> first | exact ⟨rfl, rfl, rfl, rfl⟩ | rfl) ?_
      refine DrO.run (fz := []) 1 (by simp -implicitDefEqProofs [hw0, c12, hw1] <;> first | exact ⟨rfl, rfl, rfl, rfl⟩ | rfl) ?_
      refine DrO.splitB 19 (by simp -implicitDefEqProofs [hw0, c12, hw1] <;> rfl) (by rfl) (fun g19 => ?_) (fun g19 => ?_)
      · have g19' := g19; first | simp only [dT, dF] at g19' | try simp at g19'
        have hw2 : IntKind.i64.wrap ((j : Int) - 1) = (q : Int) := by simp at g19; rw [wrapI (by omega) (by omega)]; omega
        refine DrO.run (fz := []) 3 (by simp -implicitDefEqProofs [hw0, c12, hw1, g19, hw2, hjn, hqn] <;> first | exact ⟨rfl, rfl, rfl, rfl⟩ | rfl) ?_
        refine DrO.run (fz := []) 3 (by simp -implicitDefEqProofs [hw0, c12, hw1, g19, hw2, hjn, hqn] <;> first | exact ⟨rfl, rfl, rfl, rfl⟩ | rfl) ?_
        refine DrO.run (fz := []) 3 (by simp -implicitDefEqProofs [hw0, c12, hw1, g19, hw2, hjn, hqn] <;> first | exact ⟨rfl, rfl, rfl, rfl⟩ | rfl) ?_
        refine DrO.data (by simp) rfl (by simp -implicitDefEqProofs [hw0, c12, hw1, g19, hw2, hjn, hqn] <;> rfl) (by simp -implicitDefEqProofs [hw0, c12, hw1, g19, hw2, hjn, hqn] <;> rfl) (by simp -implicitDefEqProofs [hw0, c12, hw1, g19, hw2, hjn, hqn] <;> rfl) call_65 (cless_ok (h' j) (h' q)) (by rfl) (by simp -implicitDefEqProofs [hw0, c12, hw1, g19, hw2, hjn, hqn] <;> rfl) ?_
        refine DrO.run (fz := []) 1 (by simp -implicitDefEqProofs [hw0, c12, hw1, g19, hw2, hjn, hqn] <;> first | exact ⟨rfl, rfl, rfl, rfl⟩ | rfl) ?_
        refine DrO.nil ⟨by kernel_rfl, ?_⟩
        refine ⟨rfl, Gh.only 30 15 ?_ (by first | rfl | simp -implicitDefEqProofs [hw0, c12, hw1, g19, hw2, hjn, hqn]) (by rfl)⟩
        simp -implicitDefEqProofs [hw0, c12, hw1, g19, hw2, hjn, hqn, g19']
      · have g19' := g19; first | simp only [dT, dF] at g19' | try simp at g19'
        refine DrO.run (fz := []) 3 (by simp -implicitDefEqProofs [hw0, c12, hw1, g19] <;> first | exact ⟨rfl, rfl, rfl, rfl⟩ | rfl) ?_
        refine DrO.run (fz := []) 3 (by simp -implicitDefEqProofs [hw0, c12, hw1, g19] <;> first | exact ⟨rfl, rfl, rfl, rfl⟩ | rfl) ?_
        refine DrO.run (fz := []) 3 (by simp -implicitDefEqProofs [hw0, c12, hw1, g19] <;> first | exact ⟨rfl, rfl, rfl, rfl⟩ | rfl) ?_
        refine DrO.run (fz := []) 2 (by simp -implicitDefEqProofs [hw0, c12, hw1, g19] <;> first | exact ⟨rfl, rfl, rfl, rfl⟩ | rfl) ?_
        refine DrO.nil ⟨by kernel_rfl, ?_⟩
        refine ⟨rfl, Gh.only 30 15 ?_ (by first | rfl | simp -implicitDefEqProofs [hw0, c12, hw1, g19]) (by rfl)⟩
        simp -implicitDefEqProofs [hw0, c12, hw1, g19, g19']
    refine WpC.condD (a < j ∧ h' j < h' q) (by simp -implicitDefEqProofs [hw0, c12, hw1]) (fun d30 => ?_) (fun d30 => ?_)
    · have hw2 : IntKind.i64.wrap ((j : Int) - 1) = (q : Int) := by rw [wrapI (by omega) (by omega)]; omega
      refine WpC.skip ?_
      refine WpC.seq ?_
      refine WpC.block ?_
      refine WpC.drawn tabOk (by kernel_rfl) 0 (by simp) ?_
      refine DrO.run (fz := []) 3 (by simp -implicitDefEqProofs [hw0, c12, hw1, d30, hw2, hjn, hqn] <;> first | exact ⟨rfl, rfl, rfl, rfl⟩ | rfl) ?_
      refine DrO.run (fz := []) 3 (by simp -implicitDefEqProofs [hw0, c12, hw1, d30, hw2, hjn, hqn] <;> first | exact ⟨rfl, rfl, rfl, rfl⟩ | rfl) ?_
      refine DrO.run (fz := []) 3 (by simp -implicitDefEqProofs [hw0, c12, hw1, d30, hw2, hjn, hqn] <;> first | exact ⟨rfl, rfl, rfl, rfl⟩ | rfl) ?_
      refine DrO.run (fz := []) 3 (by simp -implicitDefEqProofs [hw0, c12, hw1, d30, hw2, hjn, hqn] <;> first | exact ⟨rfl, rfl, rfl, rfl⟩ | rfl) ?_
      refine DrO.run (fz := []) 3 (by simp -implicitDefEqProofs [hw0, c12, hw1, d30, hw2, hjn, hqn] <;> first | exact ⟨rfl, rfl, rfl, rfl⟩ | rfl) ?_
      refine DrO.run (fz := []) 3 (by simp -implicitDefEqProofs [hw0, c12, hw1, d30, hw2, hjn, hqn] <;> first | exact ⟨rfl, rfl, rfl, rfl⟩ | rfl) ?_
      refine DrO.nil ⟨by kernel_rfl, ?_⟩
      refine WpC.ops tabOk (r := []) (by simp -implicitDefEqProofs [hw0, c12, hw1, d30, hw2, hjn, hqn] <;> rfl) rfl ?_
      exact ⟨(q, sw h' j q), ⟨by simp; omega, by simp; omega, h5'.trans (Mv.sw _ (by omega) (by omega) (by omega) (by omega)), h7'.trans (Rch.sw _ (by omega) (by omega) (by omega) (by omega)), ins_step cI_cmp hq hok' hjn h6' d30.1 h4' ((cI_lt _ _).2 d30.2)⟩, by simp; omega, Gh.cut' [7, 0, 1, 2, 6] 1 (by simp -implicitDefEqProofs [hw0, c12, hw1, d30, hw2, hjn, hqn, c12', sw]) (by simp -implicitDefEqProofs [hw0, c12, hw1, d30, hw2, hjn, hqn, c12', sw]) rfl (by simp) (by simp) (by simp)⟩
    · have hsr := ins_end cI_cmp hq hok' (by omega) h6' h4' (fun z => d30 ⟨z.1, (cI_lt _ _).1 z.2⟩)
      refine WpC.exit ?_
      refine WpC.ops tabOk (r := []) (by simp -implicitDefEqProofs [hw0, c12, hw1, d30] <;> rfl) rfl ?_
      exact ⟨(i + 1, h'), ⟨by simp; omega, by simp; omega, h5', h7', hsr⟩, by simp; omega, Gh.cut' [6, 0, 1, 2] 1 (by simp -implicitDefEqProofs [hw0, c12, hw1, d30, c12']) (by simp -implicitDefEqProofs [hw0, c12, hw1, d30, c12']) rfl (by simp) (by simp) (by simp)⟩
  · have c12' := c12; first | simp only [dT, dF] at c12' | try simp at c12'
    refine WpC.exit ?_
    refine ⟨.inl rfl, [], rfl, ?_, by simp⟩
    exact ⟨h, rfl, rfl, h5, h7, fun p r p1 p2 p3 => h6 p r p1 p2 (by simp at c12; omega)⟩
theorem pdq_ok (g : Nat → Int) (n : Nat) (lim : Int) (hn : n ≤ 12) :
    WpF Try.prog 40 [.sl 0 n, .d (dI 0), .d (dI n), .d (dI lim)] [.arr 3 1 (rowF g n)]
      fun r S => ∃ h, r = .tup [] ∧ S = [.arr 3 1 (rowF h n)] ∧ Mv 0 n g h ∧ Rch 0 n g h ∧ Srtd cI h 0 n := by
  have hc := insO_ok g n 0 n (Nat.zero_le _) (Nat.le_refl _) (by omega)
  have e0 : ((0 : Nat) : Int) = 0 := rfl
  rw [e0] at hc
  have hw : IntKind.i64.wrap ((n : Int)) = n := wrapI (by omega) (by omega)
  have hn' : (n : Int) ≤ 12 := by omega
  have hn2 : ¬ (12 : Int) < n := by omega
  refine WpF.enter tabOk Try.func40 rfl (by show 4 ≤ 134; decide) ?_
  simp only [Try.f40]
  refine WpC.seq (WpC.ops tabOk (r := []) (by simp -implicitDefEqProofs [hw, hn', hn2] <;> rfl) rfl ?_)
  refine WpC.seq (WpC.ops tabOk (r := []) (by simp -implicitDefEqProofs [hw, hn', hn2] <;> rfl) rfl ?_)
  refine WpC.block ?_
  refine WpC.loopM [0] [1, 2, 3, 8, 9] (fun _ => 0) (() : Unit) (fun _ => [(1, .d (dI 0)), (2, .d (dI n)), (3, .d (dI lim)), (8, .d (.bool true)), (9, .d (.bool true))]) (fun _ => [.arr 3 1 (rowF g n)]) (fun _ => True) (by simp -implicitDefEqProofs [hw, hn', hn2] <;> rfl) (Gh.cut' [1, 2, 3, 8, 9, 0] 1 (by simp -implicitDefEqProofs [hw, hn', hn2]) (by simp -implicitDefEqProofs [hw, hn', hn2]) rfl (by simp) (by simp) (by simp)) (by simp) ?_
  rintro ⟨⟩ hi
  simp only [List.cons_append, List.nil_append]
  refine WpC.block ?_
  refine WpC.seq (WpC.ops tabOk (r := []) (by simp -implicitDefEqProofs [hw, hn', hn2] <;> rfl) rfl ?_)
  refine WpC.seq ?_
  refine WpC.seq (WpC.ops tabOk (r := []) (by simp -implicitDefEqProofs [hw, hn', hn2] <;> rfl) rfl ?_)
  refine WpC.condT (by simp -implicitDefEqProofs [hw, hn', hn2] <;> rfl) ?_
  refine WpC.seq ?_
  refine WpC.region ?_
  refine WpO.run tabOk 3 (by simp -implicitDefEqProofs [hw, hn', hn2] <;> first | exact ⟨rfl, rfl⟩ | rfl) ?_
  refine WpO.callP [0] (by simp) rfl (by simp -implicitDefEqProofs [hw, hn', hn2] <;> rfl) (by simp -implicitDefEqProofs [hw, hn', hn2] <;> rfl) call_59 (by simp) (by simp) (by simp) (by simp -implicitDefEqProofs [hw, hn', hn2]) (by simp; rfl) (by simp -implicitDefEqProofs [hw, hn', hn2]) ( hc) fun r S1 hr => ?_
  obtain ⟨h, rfl, rfl, m1, m2, t1⟩ := hr
  refine ⟨_, by simp -implicitDefEqProofs [hw, hn', hn2] <;> rfl, ?_⟩
  refine WpO.nil ?_
  refine WpC.ret ?_
  refine ⟨.inr rfl, [], rfl, ?_, by simp⟩
  exact ⟨h, rfl, rfl, m1, m2, t1⟩
def lenS (y : Nat) : Nat := if y = 0 then 0 else y.log2 + 1
theorem len64s_ok (y : Nat) (hy : y < 256) : Gives Try.prog 69 [.d (.int .u64 y)] (.d (dI (lenS y))) := by
  have e1 : ¬ ((4294967296 : Int) ≤ (y : Int)) := by omega
  have e2 : ¬ ((65536 : Int) ≤ (y : Int)) := by omega
  have e3 : ¬ ((256 : Int) ≤ (y : Int)) := by omega
  have w3 : IntKind.u8.wrap (y : Int) = y := by simp [IntKind.wrap, IntKind.bits, IntKind.signed]; omega
  refine Gives.enter tabOk Try.func69 rfl (by show 1 ≤ 25; decide) ?_
  simp only [Try.f69]
  refine WpC.seq (WpC.ops tabOk (r := []) (by simp -implicitDefEqProofs [e1, e2, e3, w3, hy] <;> rfl) rfl ?_)
  refine WpC.seq ?_
  refine WpC.seq (WpC.ops tabOk (r := []) (by simp -implicitDefEqProofs [e1, e2, e3, w3, hy] <;> rfl) rfl ?_)
  refine WpC.condF (by simp -implicitDefEqProofs [e1, e2, e3, w3, hy] <;> rfl) ?_
  refine WpC.skip ?_
  refine WpC.seq ?_
  refine WpC.seq (WpC.ops tabOk (r := []) (by simp -implicitDefEqProofs [e1, e2, e3, w3, hy] <;> rfl) rfl ?_)
  refine WpC.condF (by simp -implicitDefEqProofs [e1, e2, e3, w3, hy] <;> rfl) ?_
  refine WpC.skip ?_
  refine WpC.seq ?_
  refine WpC.seq (WpC.ops tabOk (r := []) (by simp -implicitDefEqProofs [e1, e2, e3, w3, hy] <;> rfl) rfl ?_)
  refine WpC.condF (by simp -implicitDefEqProofs [e1, e2, e3, w3, hy] <;> rfl) ?_
  refine WpC.skip ?_
  generalize hS : ByteArray.mk _ = S
  have hs0 : ((List.range 256).all fun x => (S.data.toList[x]?).map UInt8.toNat == some (lenS x)) = true := by rw [← hS]; decide +kernel
  have hs1 := List.all_eq_true.1 hs0 y (List.mem_range.2 hy)
  rw [beq_iff_eq, Option.map_eq_some_iff] at hs1
  obtain ⟨b, hs2, hs3⟩ := hs1
  have hs2 : S.data[y]? = some b := by rw [← Array.getElem?_toList]; exact hs2
  have hb : b.toNat < 256 := b.toNat_lt
  have w4 : IntKind.i64.wrap (lenS y : Int) = (lenS y : Int) := wrapI (by omega) (by omega)
  refine WpC.seq (WpC.ops tabOk (r := []) (by simp -implicitDefEqProofs [e1, e2, e3, w3, hy, hs2, hs3, w4] <;> rfl) rfl ?_)
  refine WpC.ret ?_
  try simp only [blockQ, seqQ]
  refine retD_i (by simp -implicitDefEqProofs [e1, e2, e3, w3, hy, hs2, hs3, w4] <;> rfl) (by simp -implicitDefEqProofs [e1, e2, e3, w3, hy, hs2, hs3, w4] <;> rfl) ?_
  simp -implicitDefEqProofs [e1, e2, e3, w3, hy, hs2, hs3, w4]
theorem len_ok (y : Nat) (hy : y < 256) : Gives Try.prog 41 [.d (.int .u64 y)] (.d (dI (lenS y))) := by
  have hc := len64s_ok y hy
  have w1 : IntKind.u64.wrap (y : Int) = y := wrapU (by omega) (by omega)
  refine Gives.enter tabOk Try.func41 rfl (by show 1 ≤ 8; decide) ?_
  simp only [Try.f41]
  refine WpC.seq (WpC.ops tabOk (r := []) (by simp -implicitDefEqProofs [w1] <;> rfl) rfl ?_)
  refine WpC.seq ?_
  refine WpC.condF (by simp -implicitDefEqProofs [w1] <;> rfl) ?_
  refine WpC.skip ?_
  refine WpC.seq ?_
  refine WpC.region ?_
  refine WpO.run tabOk 1 (by simp -implicitDefEqProofs [w1] <;> first | exact ⟨rfl, rfl⟩ | rfl) ?_
  refine WpO.data (by simp) rfl (by simp -implicitDefEqProofs [w1] <;> rfl) (by simp -implicitDefEqProofs [w1] <;> rfl) (by simp -implicitDefEqProofs [w1] <;> rfl) call_69 (by simp) (hc) (by rfl) (by simp -implicitDefEqProofs [w1] <;> rfl) ?_
  refine WpO.run tabOk 1 (by simp -implicitDefEqProofs [w1] <;> first | exact ⟨rfl, rfl⟩ | rfl) ?_
  refine WpO.nil ?_
  refine WpC.ret ?_
  try simp only [blockQ, seqQ]
  refine retD_i (by simp -implicitDefEqProofs [w1] <;> rfl) (by simp -implicitDefEqProofs [w1] <;> rfl) ?_
  simp -implicitDefEqProofs [w1]
theorem sort_ok (g : Nat → Int) (n : Nat) (hn : n ≤ 12) :
    WpF Try.prog 26 [.sl 0 n] [.arr 3 1 (rowF g n)]
      fun r S => ∃ h, r = .tup [] ∧ S = [.arr 3 1 (rowF h n)] ∧ Mv 0 n g h ∧ Rch 0 n g h ∧ Srtd cI h 0 n := by
  have hc := pdq_ok g n (lenS n) hn
  have hl := len_ok n (by omega)
  have w1 : IntKind.u64.wrap (n : Int) = n := wrapU (by omega) (by omega)
  refine WpF.enter tabOk Try.func26 rfl (by show 1 ≤ 11; decide) ?_
  simp only [Try.f26]
  refine WpC.seq (WpC.ops tabOk (r := []) (by simp -implicitDefEqProofs [w1] <;> rfl) rfl ?_)
  refine WpC.region ?_
  refine WpO.run tabOk 4 (by simp -implicitDefEqProofs [w1] <;> first | exact ⟨rfl, rfl⟩ | rfl) ?_
  refine WpO.data (by simp) rfl (by simp -implicitDefEqProofs [w1] <;> rfl) (by simp -implicitDefEqProofs [w1] <;> rfl) (by simp -implicitDefEqProofs [w1] <;> rfl) call_41 (by simp) (hl) (by rfl) (by simp -implicitDefEqProofs [w1] <;> rfl) ?_
  refine WpO.callP [0] (by simp) rfl (by simp -implicitDefEqProofs [w1] <;> rfl) (by simp -implicitDefEqProofs [w1] <;> rfl) call_40 (by simp) (by simp) (by simp) (by simp -implicitDefEqProofs [w1]) (by simp; rfl) (by simp -implicitDefEqProofs [w1]) ( hc) fun r S1 hr => ?_
  obtain ⟨h, rfl, rfl, m1, m2, t1⟩ := hr
  refine ⟨_, by simp -implicitDefEqProofs [w1] <;> rfl, ?_⟩
  refine WpO.nil ?_
  refine ⟨.inl rfl, [], rfl, ?_, by simp⟩
  exact ⟨h, rfl, rfl, m1, m2, t1⟩
end Go.Proofs.Ytaobnhenjldjeaa.Pay
