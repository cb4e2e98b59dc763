/- Law BankLines. No statement of the seed is proved here but that one's walk. -/
import Derived.Test.YtjlamhilnkadcaaDoorBkO
namespace Go.Proofs.YtjlamhilnkadcaaDoor.Pay
open Go Go.RowKit
set_option linter.unusedVariables false
set_option linter.unusedSimpArgs false

theorem bodyL_split {per : Int} {l : List Pm} {k : Nat} (hk : k < l.length) : ∃ r, bodyL per l = bodyL per (l.take k) ++ (lineL l[k] ++ r) := by
  refine ⟨((l.drop (k + 1)).map lineL).flatten, ?_⟩
  have e : l = l.take k ++ (l[k] :: l.drop (k + 1)) := by simp
  have h2 : bodyL per l = bodyL per (l.take k ++ (l[k] :: l.drop (k + 1))) := congrArg _ e
  rw [h2]
  simp only [bodyL, List.map_append, List.map_cons, List.flatten_append, List.flatten_cons, List.append_assoc]
theorem getL_at {a b : List UInt8} {c : UInt8} {i : Nat} (h : a.length = i) : (a ++ c :: b)[i]? = some c := by
  subst h; simp
theorem textL_facts {per : Int} {l : List Pm} (hr : rightB per l = true) : (textL per l)[0]? = some 72 ∧ (textL per l)[6]? = some 10 ∧ (textL per l)[7 + 28 * l.length]? = some 84 ∧ (textL per l)[32 + 28 * l.length]? = some 10 ∧
    ∀ k (hk : k < l.length), (textL per l)[7 + 28 * k]? = some (UInt8.ofNat l[k].kind.toNat) ∧ (textL per l)[34 + 28 * k]? = some 10 := by
  simp only [rightB, Bool.and_eq_true, decide_eq_true_eq] at hr
  obtain ⟨⟨⟨hal, hp0⟩, hp1⟩, hl⟩ := hr
  have hsu := sumA_le hal l.length (Nat.le_refl _)
  have h5 := wideL_len (n := per) (d := 5) (k := 4) rfl (by omega) (by omega)
  have hb0 := bodyL_len hal h5
  have hb := hb0 l.length (Nat.le_refl _)
  rw [List.take_length] at hsu hb
  have h4 := wideL_len (n := l.length) (d := 4) (k := 3) rfl (by omega) (by omega)
  have h20 := wideL_len (n := sumA l) (d := 20) (k := 19) rfl (by omega) (by omega)
  refine ⟨rfl, ?_, ?_, ?_, fun k hk => ?_⟩
  · have e : textL per l = (72 :: wideL per 5) ++ 10 :: ((l.map lineL).flatten ++ 84 :: (wideL l.length 4 ++ (wideL (sumA l) 20 ++ [10]))) := by
      simp [textL, bodyL, headL]
    rw [e]
    exact getL_at (by simp [h5])
  · exact getL_at hb
  · have e : textL per l = (bodyL per l ++ 84 :: (wideL l.length 4 ++ wideL (sumA l) 20)) ++ 10 :: [] := by
      simp [textL]
    rw [e]
    exact getL_at (by simp [h4, h20, hb]; omega)
  · obtain ⟨r, h⟩ := bodyL_split (per := per) hk
    have hbk := hb0 k (by omega)
    have hok := right_at hal hk
    simp only [okB, Bool.and_eq_true, Bool.or_eq_true, decide_eq_true_eq] at hok
    have h1 := wideL_len (n := l[k].num) (d := 10) (k := 9) rfl (by omega) (by omega)
    have h2 := wideL_len (n := l[k].amt) (d := 16) (k := 15) rfl (by omega) (by omega)
    constructor
    · have e : textL per l = bodyL per (l.take k) ++ UInt8.ofNat l[k].kind.toNat :: (wideL l[k].num 10 ++ (wideL l[k].amt 16 ++ [10]) ++ r ++ 84 :: (wideL l.length 4 ++ (wideL (sumA l) 20 ++ [10]))) := by
        rw [textL, h]; simp [lineL]
      rw [e]
      exact getL_at hbk
    · have e : textL per l = (bodyL per (l.take k) ++ UInt8.ofNat l[k].kind.toNat :: (wideL l[k].num 10 ++ wideL l[k].amt 16)) ++ 10 :: (r ++ 84 :: (wideL l.length 4 ++ (wideL (sumA l) 20 ++ [10]))) := by
        rw [textL, h]; simp [lineL]
      rw [e]
      exact getL_at (by simp [h1, h2, hbk]; omega)
theorem lines_long (per : Int) (l : List Pm) (h : 100 < l.length) (hl : l.length ≤ 9223372036854775807) : Gives Tryd.prog 6 [.d (encF per l)] (.d (.bool true)) := by
  have h2 : (100 : Int) < l.length := by omega
  have hw := writeA_ok per l hl
  refine Gives.enter tabOk Tryd.func6 rfl (by show 1 ≤ 95; decide) ?_
  simp only [Tryd.f6]
  refine qR (by simp -implicitDefEqProofs [h2] <;> rfl) ?_
  refine WpC.seq ?_
  refine WpC.region ?_
  refine WpO.run tabOk 1 (by simp -implicitDefEqProofs [h2] <;> first | exact ⟨rfl, rfl⟩ | rfl) ?_
  refine WpO.data (by simp) rfl (by simp -implicitDefEqProofs [h2] <;> rfl) (by simp -implicitDefEqProofs [h2] <;> rfl) (by simp -implicitDefEqProofs [h2] <;> rfl) call_9 (by simp) (hw) (by rfl) (by simp -implicitDefEqProofs [h2] <;> rfl) ?_
  refine WpO.run tabOk 5 (by simp -implicitDefEqProofs [h2] <;> first | exact ⟨rfl, rfl⟩ | rfl) ?_
  refine WpO.nil ?_
  refine WpC.seq ?_
  refine WpC.seq ?_
  refine WpC.region ?_
  refine WpO.run tabOk 5 (by simp -implicitDefEqProofs [h2] <;> first | exact ⟨rfl, rfl⟩ | rfl) ?_
  refine WpO.splitB 17 (by simp -implicitDefEqProofs [h2] <;> rfl) (by rfl) (fun g17 => ?_) (fun g17 => ?_)
  · try (exfalso; revert g17; simp; done)
    all_goals
      have g17' := g17; first | simp only [dT, dF] at g17' | try simp at g17'
      refine WpO.run tabOk 3 (by simp -implicitDefEqProofs [h2, g17] <;> first | exact ⟨rfl, rfl⟩ | rfl) ?_
      refine WpO.nil ?_
      refine WpC.condT (by simp -implicitDefEqProofs [h2, g17] <;> rfl) ?_
      refine WpC.seq ?_
      refine WpC.region ?_
      refine WpO.run tabOk 5 (by simp -implicitDefEqProofs [h2, g17] <;> first | exact ⟨rfl, rfl⟩ | rfl) ?_
      refine WpO.splitB 25 (by simp -implicitDefEqProofs [h2, g17] <;> rfl) (by rfl) (fun g25 => ?_) (fun g25 => ?_)
      · try (exfalso; revert g25; simp; done)
        all_goals
          have g25' := g25; first | simp only [dT, dF] at g25' | try simp at g25'
          refine WpO.run tabOk 4 (by simp -implicitDefEqProofs [h2, g17, g25] <;> first | exact ⟨rfl, rfl⟩ | rfl) ?_
          refine WpO.data (by simp) rfl (by simp -implicitDefEqProofs [h2, g17, g25] <;> rfl) (by simp -implicitDefEqProofs [h2, g17, g25] <;> rfl) (by simp -implicitDefEqProofs [h2, g17, g25] <;> rfl) call_8 (by simp) (awake_ok) (by rfl) (by simp -implicitDefEqProofs [h2, g17, g25] <;> rfl) ?_
          refine WpO.run tabOk 2 (by simp -implicitDefEqProofs [h2, g17, g25] <;> first | exact ⟨rfl, rfl⟩ | rfl) ?_
          refine WpO.nil ?_
          refine WpC.ret ?_
          try simp only [blockQ, seqQ]
          refine retD_i (by simp -implicitDefEqProofs [h2, g17, g25] <;> rfl) (by simp -implicitDefEqProofs [h2, g17, g25] <;> rfl) ?_
          simp -implicitDefEqProofs [h2, g17, g25]
      · try (exfalso; revert g25; simp; done)
        all_goals
          have g25' := g25; first | simp only [dT, dF] at g25' | try simp at g25'
          refine WpO.run tabOk 4 (by simp -implicitDefEqProofs [h2, g17, g25] <;> first | exact ⟨rfl, rfl⟩ | rfl) ?_
          refine WpO.splitB 29 (by simp -implicitDefEqProofs [h2, g17, g25] <;> rfl) (by rfl) (fun g29 => ?_) (fun g29 => ?_)
          · try (exfalso; revert g29; simp; done)
            all_goals
              have g29' := g29; first | simp only [dT, dF] at g29' | try simp at g29'
              refine WpO.data (by simp) rfl (by simp -implicitDefEqProofs [h2, g17, g25, g29] <;> rfl) (by simp -implicitDefEqProofs [h2, g17, g25, g29] <;> rfl) (by simp -implicitDefEqProofs [h2, g17, g25, g29] <;> rfl) call_8 (by simp) (awake_ok) (by rfl) (by simp -implicitDefEqProofs [h2, g17, g25, g29] <;> rfl) ?_
              refine WpO.run tabOk 2 (by simp -implicitDefEqProofs [h2, g17, g25, g29] <;> first | exact ⟨rfl, rfl⟩ | rfl) ?_
              refine WpO.nil ?_
              refine WpC.ret ?_
              try simp only [blockQ, seqQ]
              refine retD_i (by simp -implicitDefEqProofs [h2, g17, g25, g29] <;> rfl) (by simp -implicitDefEqProofs [h2, g17, g25, g29] <;> rfl) ?_
              simp -implicitDefEqProofs [h2, g17, g25, g29]
          · try (exfalso; revert g29; simp; done)
            all_goals
              have g29' := g29; first | simp only [dT, dF] at g29' | try simp at g29'
              refine WpO.run tabOk 3 (by simp -implicitDefEqProofs [h2, g17, g25, g29] <;> first | exact ⟨rfl, rfl⟩ | rfl) ?_
              refine WpO.nil ?_
              refine WpC.ret ?_
              try simp only [blockQ, seqQ]
              refine retD_i (by simp -implicitDefEqProofs [h2, g17, g25, g29] <;> rfl) (by simp -implicitDefEqProofs [h2, g17, g25, g29] <;> rfl) ?_
              simp -implicitDefEqProofs [h2, g17, g25, g29]
  · try (exfalso; revert g17; simp; done)
    all_goals
      have g17' := g17; first | simp only [dT, dF] at g17' | try simp at g17'
      refine WpO.run tabOk 3 (by simp -implicitDefEqProofs [h2, g17] <;> first | exact ⟨rfl, rfl⟩ | rfl) ?_
      refine WpO.nil ?_
      refine WpC.condT (by simp -implicitDefEqProofs [h2, g17] <;> rfl) ?_
      refine WpC.seq ?_
      refine WpC.region ?_
      refine WpO.run tabOk 5 (by simp -implicitDefEqProofs [h2, g17] <;> first | exact ⟨rfl, rfl⟩ | rfl) ?_
      refine WpO.splitB 25 (by simp -implicitDefEqProofs [h2, g17] <;> rfl) (by rfl) (fun g25 => ?_) (fun g25 => ?_)
      · try (exfalso; revert g25; simp; done)
        all_goals
          have g25' := g25; first | simp only [dT, dF] at g25' | try simp at g25'
          refine WpO.run tabOk 4 (by simp -implicitDefEqProofs [h2, g17, g25] <;> first | exact ⟨rfl, rfl⟩ | rfl) ?_
          refine WpO.data (by simp) rfl (by simp -implicitDefEqProofs [h2, g17, g25] <;> rfl) (by simp -implicitDefEqProofs [h2, g17, g25] <;> rfl) (by simp -implicitDefEqProofs [h2, g17, g25] <;> rfl) call_8 (by simp) (awake_ok) (by rfl) (by simp -implicitDefEqProofs [h2, g17, g25] <;> rfl) ?_
          refine WpO.run tabOk 2 (by simp -implicitDefEqProofs [h2, g17, g25] <;> first | exact ⟨rfl, rfl⟩ | rfl) ?_
          refine WpO.nil ?_
          refine WpC.ret ?_
          try simp only [blockQ, seqQ]
          refine retD_i (by simp -implicitDefEqProofs [h2, g17, g25] <;> rfl) (by simp -implicitDefEqProofs [h2, g17, g25] <;> rfl) ?_
          simp -implicitDefEqProofs [h2, g17, g25]
      · try (exfalso; revert g25; simp; done)
        all_goals
          have g25' := g25; first | simp only [dT, dF] at g25' | try simp at g25'
          refine WpO.run tabOk 4 (by simp -implicitDefEqProofs [h2, g17, g25] <;> first | exact ⟨rfl, rfl⟩ | rfl) ?_
          refine WpO.splitB 29 (by simp -implicitDefEqProofs [h2, g17, g25] <;> rfl) (by rfl) (fun g29 => ?_) (fun g29 => ?_)
          · try (exfalso; revert g29; simp; done)
            all_goals
              have g29' := g29; first | simp only [dT, dF] at g29' | try simp at g29'
              refine WpO.data (by simp) rfl (by simp -implicitDefEqProofs [h2, g17, g25, g29] <;> rfl) (by simp -implicitDefEqProofs [h2, g17, g25, g29] <;> rfl) (by simp -implicitDefEqProofs [h2, g17, g25, g29] <;> rfl) call_8 (by simp) (awake_ok) (by rfl) (by simp -implicitDefEqProofs [h2, g17, g25, g29] <;> rfl) ?_
              refine WpO.run tabOk 2 (by simp -implicitDefEqProofs [h2, g17, g25, g29] <;> first | exact ⟨rfl, rfl⟩ | rfl) ?_
              refine WpO.nil ?_
              refine WpC.ret ?_
              try simp only [blockQ, seqQ]
              refine retD_i (by simp -implicitDefEqProofs [h2, g17, g25, g29] <;> rfl) (by simp -implicitDefEqProofs [h2, g17, g25, g29] <;> rfl) ?_
              simp -implicitDefEqProofs [h2, g17, g25, g29]
          · try (exfalso; revert g29; simp; done)
            all_goals
              have g29' := g29; first | simp only [dT, dF] at g29' | try simp at g29'
              refine WpO.run tabOk 3 (by simp -implicitDefEqProofs [h2, g17, g25, g29] <;> first | exact ⟨rfl, rfl⟩ | rfl) ?_
              refine WpO.nil ?_
              refine WpC.ret ?_
              try simp only [blockQ, seqQ]
              refine retD_i (by simp -implicitDefEqProofs [h2, g17, g25, g29] <;> rfl) (by simp -implicitDefEqProofs [h2, g17, g25, g29] <;> rfl) ?_
              simp -implicitDefEqProofs [h2, g17, g25, g29]
theorem lines_no (per : Int) (l : List Pm) (h : l.length ≤ 100) (hr : rightB per l = false) : Gives Tryd.prog 6 [.d (encF per l)] (.d (.bool true)) := by
  have h2 : ¬ (100 : Int) < l.length := by omega
  have hw := writeA_ok per l (by omega)
  have hs : wrS per l = [] := by rw [wrS, if_neg (by simp [hr])]
  have he : wrE per l = 1 := by rw [wrE, if_neg (by simp [hr])]
  rw [hs, he] at hw
  refine Gives.enter tabOk Tryd.func6 rfl (by show 1 ≤ 95; decide) ?_
  simp only [Tryd.f6]
  refine qR (by simp -implicitDefEqProofs [h2] <;> rfl) ?_
  refine WpC.seq ?_
  refine WpC.region ?_
  refine WpO.run tabOk 1 (by simp -implicitDefEqProofs [h2] <;> first | exact ⟨rfl, rfl⟩ | rfl) ?_
  refine WpO.data (by simp) rfl (by simp -implicitDefEqProofs [h2] <;> rfl) (by simp -implicitDefEqProofs [h2] <;> rfl) (by simp -implicitDefEqProofs [h2] <;> rfl) call_9 (by simp) (hw) (by rfl) (by simp -implicitDefEqProofs [h2] <;> rfl) ?_
  refine WpO.run tabOk 5 (by simp -implicitDefEqProofs [h2] <;> first | exact ⟨rfl, rfl⟩ | rfl) ?_
  refine WpO.nil ?_
  refine WpC.seq ?_
  refine WpC.seq ?_
  refine WpC.region ?_
  refine WpO.run tabOk 5 (by simp -implicitDefEqProofs [h2] <;> first | exact ⟨rfl, rfl⟩ | rfl) ?_
  refine WpO.splitB 17 (by simp -implicitDefEqProofs [h2] <;> rfl) (by rfl) (fun g17 => ?_) (fun g17 => ?_)
  · try (exfalso; revert g17; simp; done)
    all_goals
      have g17' := g17; first | simp only [dT, dF] at g17' | try simp at g17'
      refine WpO.run tabOk 3 (by simp -implicitDefEqProofs [h2, g17] <;> first | exact ⟨rfl, rfl⟩ | rfl) ?_
      refine WpO.nil ?_
      refine WpC.condT (by simp -implicitDefEqProofs [h2, g17] <;> rfl) ?_
      refine WpC.seq ?_
      refine WpC.region ?_
      refine WpO.run tabOk 5 (by simp -implicitDefEqProofs [h2, g17] <;> first | exact ⟨rfl, rfl⟩ | rfl) ?_
      refine WpO.splitB 25 (by simp -implicitDefEqProofs [h2, g17] <;> rfl) (by rfl) (fun g25 => ?_) (fun g25 => ?_)
      · try (exfalso; revert g25; simp; done)
        all_goals
          have g25' := g25; first | simp only [dT, dF] at g25' | try simp at g25'
          refine WpO.run tabOk 4 (by simp -implicitDefEqProofs [h2, g17, g25] <;> first | exact ⟨rfl, rfl⟩ | rfl) ?_
          refine WpO.data (by simp) rfl (by simp -implicitDefEqProofs [h2, g17, g25] <;> rfl) (by simp -implicitDefEqProofs [h2, g17, g25] <;> rfl) (by simp -implicitDefEqProofs [h2, g17, g25] <;> rfl) call_8 (by simp) (awake_ok) (by rfl) (by simp -implicitDefEqProofs [h2, g17, g25] <;> rfl) ?_
          refine WpO.run tabOk 2 (by simp -implicitDefEqProofs [h2, g17, g25] <;> first | exact ⟨rfl, rfl⟩ | rfl) ?_
          refine WpO.nil ?_
          refine WpC.ret ?_
          try simp only [blockQ, seqQ]
          refine retD_i (by simp -implicitDefEqProofs [h2, g17, g25] <;> rfl) (by simp -implicitDefEqProofs [h2, g17, g25] <;> rfl) ?_
          simp -implicitDefEqProofs [h2, g17, g25]
      · try (exfalso; revert g25; simp; done)
        all_goals
          have g25' := g25; first | simp only [dT, dF] at g25' | try simp at g25'
          refine WpO.run tabOk 4 (by simp -implicitDefEqProofs [h2, g17, g25] <;> first | exact ⟨rfl, rfl⟩ | rfl) ?_
          refine WpO.splitB 29 (by simp -implicitDefEqProofs [h2, g17, g25] <;> rfl) (by rfl) (fun g29 => ?_) (fun g29 => ?_)
          · try (exfalso; revert g29; simp; done)
            all_goals
              have g29' := g29; first | simp only [dT, dF] at g29' | try simp at g29'
              refine WpO.data (by simp) rfl (by simp -implicitDefEqProofs [h2, g17, g25, g29] <;> rfl) (by simp -implicitDefEqProofs [h2, g17, g25, g29] <;> rfl) (by simp -implicitDefEqProofs [h2, g17, g25, g29] <;> rfl) call_8 (by simp) (awake_ok) (by rfl) (by simp -implicitDefEqProofs [h2, g17, g25, g29] <;> rfl) ?_
              refine WpO.run tabOk 2 (by simp -implicitDefEqProofs [h2, g17, g25, g29] <;> first | exact ⟨rfl, rfl⟩ | rfl) ?_
              refine WpO.nil ?_
              refine WpC.ret ?_
              try simp only [blockQ, seqQ]
              refine retD_i (by simp -implicitDefEqProofs [h2, g17, g25, g29] <;> rfl) (by simp -implicitDefEqProofs [h2, g17, g25, g29] <;> rfl) ?_
              simp -implicitDefEqProofs [h2, g17, g25, g29]
          · try (exfalso; revert g29; simp; done)
            all_goals
              have g29' := g29; first | simp only [dT, dF] at g29' | try simp at g29'
              refine WpO.run tabOk 3 (by simp -implicitDefEqProofs [h2, g17, g25, g29] <;> first | exact ⟨rfl, rfl⟩ | rfl) ?_
              refine WpO.nil ?_
              refine WpC.ret ?_
              try simp only [blockQ, seqQ]
              refine retD_i (by simp -implicitDefEqProofs [h2, g17, g25, g29] <;> rfl) (by simp -implicitDefEqProofs [h2, g17, g25, g29] <;> rfl) ?_
              simp -implicitDefEqProofs [h2, g17, g25, g29]
  · try (exfalso; revert g17; simp; done)
    all_goals
      have g17' := g17; first | simp only [dT, dF] at g17' | try simp at g17'
      refine WpO.run tabOk 3 (by simp -implicitDefEqProofs [h2, g17] <;> first | exact ⟨rfl, rfl⟩ | rfl) ?_
      refine WpO.nil ?_
      refine WpC.condT (by simp -implicitDefEqProofs [h2, g17] <;> rfl) ?_
      refine WpC.seq ?_
      refine WpC.region ?_
      refine WpO.run tabOk 5 (by simp -implicitDefEqProofs [h2, g17] <;> first | exact ⟨rfl, rfl⟩ | rfl) ?_
      refine WpO.splitB 25 (by simp -implicitDefEqProofs [h2, g17] <;> rfl) (by rfl) (fun g25 => ?_) (fun g25 => ?_)
      · try (exfalso; revert g25; simp; done)
        all_goals
          have g25' := g25; first | simp only [dT, dF] at g25' | try simp at g25'
          refine WpO.run tabOk 4 (by simp -implicitDefEqProofs [h2, g17, g25] <;> first | exact ⟨rfl, rfl⟩ | rfl) ?_
          refine WpO.data (by simp) rfl (by simp -implicitDefEqProofs [h2, g17, g25] <;> rfl) (by simp -implicitDefEqProofs [h2, g17, g25] <;> rfl) (by simp -implicitDefEqProofs [h2, g17, g25] <;> rfl) call_8 (by simp) (awake_ok) (by rfl) (by simp -implicitDefEqProofs [h2, g17, g25] <;> rfl) ?_
          refine WpO.run tabOk 2 (by simp -implicitDefEqProofs [h2, g17, g25] <;> first | exact ⟨rfl, rfl⟩ | rfl) ?_
          refine WpO.nil ?_
          refine WpC.ret ?_
          try simp only [blockQ, seqQ]
          refine retD_i (by simp -implicitDefEqProofs [h2, g17, g25] <;> rfl) (by simp -implicitDefEqProofs [h2, g17, g25] <;> rfl) ?_
          simp -implicitDefEqProofs [h2, g17, g25]
      · try (exfalso; revert g25; simp; done)
        all_goals
          have g25' := g25; first | simp only [dT, dF] at g25' | try simp at g25'
          refine WpO.run tabOk 4 (by simp -implicitDefEqProofs [h2, g17, g25] <;> first | exact ⟨rfl, rfl⟩ | rfl) ?_
          refine WpO.splitB 29 (by simp -implicitDefEqProofs [h2, g17, g25] <;> rfl) (by rfl) (fun g29 => ?_) (fun g29 => ?_)
          · try (exfalso; revert g29; simp; done)
            all_goals
              have g29' := g29; first | simp only [dT, dF] at g29' | try simp at g29'
              refine WpO.data (by simp) rfl (by simp -implicitDefEqProofs [h2, g17, g25, g29] <;> rfl) (by simp -implicitDefEqProofs [h2, g17, g25, g29] <;> rfl) (by simp -implicitDefEqProofs [h2, g17, g25, g29] <;> rfl) call_8 (by simp) (awake_ok) (by rfl) (by simp -implicitDefEqProofs [h2, g17, g25, g29] <;> rfl) ?_
              refine WpO.run tabOk 2 (by simp -implicitDefEqProofs [h2, g17, g25, g29] <;> first | exact ⟨rfl, rfl⟩ | rfl) ?_
              refine WpO.nil ?_
              refine WpC.ret ?_
              try simp only [blockQ, seqQ]
              refine retD_i (by simp -implicitDefEqProofs [h2, g17, g25, g29] <;> rfl) (by simp -implicitDefEqProofs [h2, g17, g25, g29] <;> rfl) ?_
              simp -implicitDefEqProofs [h2, g17, g25, g29]
          · try (exfalso; revert g29; simp; done)
            all_goals
              have g29' := g29; first | simp only [dT, dF] at g29' | try simp at g29'
              refine WpO.run tabOk 3 (by simp -implicitDefEqProofs [h2, g17, g25, g29] <;> first | exact ⟨rfl, rfl⟩ | rfl) ?_
              refine WpO.nil ?_
              refine WpC.ret ?_
              try simp only [blockQ, seqQ]
              refine retD_i (by simp -implicitDefEqProofs [h2, g17, g25, g29] <;> rfl) (by simp -implicitDefEqProofs [h2, g17, g25, g29] <;> rfl) ?_
              simp -implicitDefEqProofs [h2, g17, g25, g29]
theorem lines_yes (per : Int) (l : List Pm) (h : l.length ≤ 100) (hr : rightB per l = true) : Gives Tryd.prog 6 [.d (encF per l)] (.d (.bool true)) := by
  have h2 : ¬ (100 : Int) < l.length := by omega
  have hw := writeA_ok per l (by omega)
  have hs : wrS per l = textL per l := by rw [wrS, if_pos hr]
  have he : wrE per l = 0 := by rw [wrE, if_pos hr]
  rw [hs, he] at hw
  obtain ⟨f0, f6, f84, fz, fk⟩ := textL_facts hr
  have hlen := textL_len hr
  obtain ⟨T, hT⟩ : ∃ T, textL per l = T := ⟨_, rfl⟩
  rw [hT] at hw f0 f6 f84 fz fk hlen
  obtain ⟨N, hN⟩ : ∃ N, T.length = N := ⟨_, rfl⟩
  rw [hN] at hlen
  have w1 : IntKind.i64.wrap (28 * (l.length : Int)) = 28 * l.length := wrapI (by omega) (by omega)
  have w2 : IntKind.i64.wrap (7 + 28 * (l.length : Int)) = 7 + 28 * l.length := wrapI (by omega) (by omega)
  have w3 : IntKind.i64.wrap (7 + 28 * (l.length : Int) + 26) = N := by rw [wrapI (by omega) (by omega)]; omega
  obtain ⟨i1, hi1⟩ : ∃ i, 7 + 28 * l.length = i := ⟨_, rfl⟩
  obtain ⟨i2, hi2⟩ : ∃ i, 32 + 28 * l.length = i := ⟨_, rfl⟩
  rw [hi1] at f84
  rw [hi2] at fz
  have w4 : IntKind.i64.wrap ((N : Int) - 26) = (i1 : Int) := by rw [wrapI (by omega) (by omega)]; omega
  have w5 : IntKind.i64.wrap ((N : Int) - 1) = (i2 : Int) := by rw [wrapI (by omega) (by omega)]; omega
  refine Gives.enter tabOk Tryd.func6 rfl (by show 1 ≤ 95; decide) ?_
  simp only [Tryd.f6]
  have H1 := And.intro h2 (And.intro hN (And.intro w1 (And.intro w2 (And.intro w3 (And.intro w4 (And.intro w5 (And.intro f0 (And.intro f6 (And.intro f84 fz)))))))))
  refine qR (by simp -implicitDefEqProofs [H1] <;> rfl) ?_
  refine WpC.seq ?_
  refine WpC.region ?_
  refine WpO.run tabOk 1 (by simp -implicitDefEqProofs [H1] <;> first | exact ⟨rfl, rfl⟩ | rfl) ?_
  refine WpO.data (by simp) rfl (by simp -implicitDefEqProofs [H1] <;> rfl) (by simp -implicitDefEqProofs [H1] <;> rfl) (by simp -implicitDefEqProofs [H1] <;> rfl) call_9 (by simp) (hw) (by rfl) (by simp -implicitDefEqProofs [H1] <;> rfl) ?_
  refine WpO.run tabOk 5 (by simp -implicitDefEqProofs [H1] <;> first | exact ⟨rfl, rfl⟩ | rfl) ?_
  refine WpO.nil ?_
  refine WpC.seq ?_
  refine WpC.seq ?_
  refine WpC.region ?_
  refine WpO.run tabOk 5 (by simp -implicitDefEqProofs [H1] <;> first | exact ⟨rfl, rfl⟩ | rfl) ?_
  refine WpO.splitB 17 (by simp -implicitDefEqProofs [H1] <;> rfl) (by rfl) (fun g17 => ?_) (fun g17 => ?_)
  · try (exfalso; revert g17; simp; done)
    all_goals
      have g17' := g17; first | simp only [dT, dF] at g17' | try simp at g17'
      refine WpO.run tabOk 3 (by simp -implicitDefEqProofs [H1, g17] <;> first | exact ⟨rfl, rfl⟩ | rfl) ?_
      refine WpO.nil ?_
      refine WpC.condF (by simp -implicitDefEqProofs [H1, g17] <;> rfl) ?_
      refine WpC.skip ?_
      refine qR (by simp -implicitDefEqProofs [H1, g17] <;> rfl) ?_
      refine WpC.seq ?_
      refine WpC.seq ?_
      refine WpC.region ?_
      refine WpO.run tabOk 8 (by simp -implicitDefEqProofs [H1, g17] <;> first | exact ⟨rfl, rfl⟩ | rfl) ?_
      refine WpO.splitB 42 (by simp -implicitDefEqProofs [H1, g17] <;> rfl) (by rfl) (fun g42 => ?_) (fun g42 => ?_)
      · try (exfalso; revert g42; simp; done)
        all_goals
          have g42' := g42; first | simp only [dT, dF] at g42' | try simp at g42'
          refine WpO.run tabOk 25 (by simp -implicitDefEqProofs [H1, g17, g42] <;> first | exact ⟨rfl, rfl⟩ | rfl) ?_
          refine WpO.nil ?_
          refine WpC.condF (by simp -implicitDefEqProofs [H1, g17, g42] <;> rfl) ?_
          refine WpC.skip ?_
          refine WpC.seq ?_
          refine qR (by simp -implicitDefEqProofs [H1, g17, g42] <;> rfl) ?_
          refine WpC.block ?_
          refine WpC.loopK [3, 69, 70] [71] (l.length) (() : Unit) (fun k _ => [(71, .d (.int .i64 k))]) (fun k _ => []) (fun k _ => True) (by simp -implicitDefEqProofs [H1, g17, g42] <;> rfl) (Gh.cut' [71, 3, 69, 70] 0 (by simp -implicitDefEqProofs [H1, g17, g42]) (by simp -implicitDefEqProofs [H1, g17, g42]) rfl (by simp) (by simp) (by simp)) (by simp) ?_
          rintro k ⟨⟩ hk hi
          simp only [List.cons_append, List.nil_append]
          refine qR (by simp -implicitDefEqProofs [H1, g17, g42] <;> rfl) ?_
          refine WpC.seq (WpC.condD (k < l.length) (by simp -implicitDefEqProofs [H1, g17, g42] <;> omega) (fun hlt => ?_) (fun hge => ?_))
          · refine WpC.skip ?_
            have hkl : k < l.length := by omega
            obtain ⟨p, hp⟩ : ∃ p, l[k] = p := ⟨_, rfl⟩
            have hwk : IntKind.i64.wrap ((k : Int) + 1) = k + 1 := wrapI (by omega) (by omega)
            have v1 : IntKind.i64.wrap (28 * (k : Int)) = 28 * k := wrapI (by omega) (by omega)
            obtain ⟨j1, hj1⟩ : ∃ i, 7 + 28 * k = i := ⟨_, rfl⟩
            obtain ⟨j2, hj2⟩ : ∃ i, 34 + 28 * k = i := ⟨_, rfl⟩
            have v2 : IntKind.i64.wrap (7 + 28 * (k : Int)) = (j1 : Int) := by rw [wrapI (by omega) (by omega)]; omega
            have v3 : IntKind.i64.wrap ((j1 : Int) + 27) = (j2 : Int) := by rw [wrapI (by omega) (by omega)]; omega
            have u1 := (fk k hkl).1
            have u2 := (fk k hkl).2
            rw [hj1, hp] at u1
            rw [hj2] at u2
            have hok := right_at (by simp only [rightB, Bool.and_eq_true, decide_eq_true_eq] at hr; exact hr.1.1.1) hkl
            rw [hp] at hok
            simp only [okB, Bool.and_eq_true, Bool.or_eq_true, decide_eq_true_eq] at hok
            obtain ⟨c, hc⟩ : ∃ c, UInt8.ofNat p.kind.toNat = c := ⟨_, rfl⟩
            rw [hc] at u1
            have hcc : (c.toNat : Int) = p.kind := by rw [← hc, UInt8.toNat_ofNat']; omega
            have H2 := And.intro H1 (And.intro hlt (And.intro hkl (And.intro hp (And.intro hwk (And.intro v1 (And.intro v2 (And.intro v3 (And.intro u1 (And.intro u2 hcc)))))))))
            refine WpC.seq ?_
            refine WpC.block ?_
            refine qR (by simp -implicitDefEqProofs [H2, g17, g42] <;> rfl) ?_
            refine WpC.seq ?_
            refine WpC.drawn tabOk (by kernel_rfl) 0 (by simp) ?_
            refine DrO.run (fz := []) 3 (by simp -implicitDefEqProofs [H2, g17, g42] <;> first | exact ⟨rfl, rfl, rfl, rfl⟩ | rfl) ?_
            refine DrO.run (fz := []) 3 (by simp -implicitDefEqProofs [H2, g17, g42] <;> first | exact ⟨rfl, rfl, rfl, rfl⟩ | rfl) ?_
            refine DrO.run (fz := []) 3 (by simp -implicitDefEqProofs [H2, g17, g42] <;> first | exact ⟨rfl, rfl, rfl, rfl⟩ | rfl) ?_
            refine DrO.splitB 84 (by simp -implicitDefEqProofs [H2, g17, g42] <;> rfl) (by rfl) (fun g84 => ?_) (fun g84 => ?_)
            · try (exfalso; revert g84; simp; done)
              all_goals
                have g84' := g84; first | simp only [dT, dF] at g84' | try simp at g84'
                refine DrO.run (fz := []) 3 (by simp -implicitDefEqProofs [H2, g17, g42, g84] <;> first | exact ⟨rfl, rfl, rfl, rfl⟩ | rfl) ?_
                refine DrO.run (fz := []) 3 (by simp -implicitDefEqProofs [H2, g17, g42, g84] <;> first | exact ⟨rfl, rfl, rfl, rfl⟩ | rfl) ?_
                refine DrO.run (fz := []) 2 (by simp -implicitDefEqProofs [H2, g17, g42, g84] <;> first | exact ⟨rfl, rfl, rfl, rfl⟩ | rfl) ?_
                refine DrO.nil ⟨by kernel_rfl, ?_⟩
                refine WpC.condF (by simp -implicitDefEqProofs [H2, g17, g42, g84] <;> rfl) ?_
                refine WpC.skip ?_
                refine qr (by simp -implicitDefEqProofs [H2, g17, g42, g84] <;> rfl) ?_
                exact ⟨hlt, (), trivial, Gh.cut' [71, 3, 69, 70] 0 (by simp -implicitDefEqProofs [H2, g17, g42, g84, g17', g42', g84']) (by simp) rfl (by simp) (by simp) (by simp)⟩
            · try (exfalso; revert g84; simp; done)
              all_goals
                have g84' := g84; first | simp only [dT, dF] at g84' | try simp at g84'
                refine DrO.run (fz := []) 3 (by simp -implicitDefEqProofs [H2, g17, g42, g84] <;> first | exact ⟨rfl, rfl, rfl, rfl⟩ | rfl) ?_
                refine DrO.run (fz := []) 3 (by simp -implicitDefEqProofs [H2, g17, g42, g84] <;> first | exact ⟨rfl, rfl, rfl, rfl⟩ | rfl) ?_
                refine DrO.run (fz := []) 2 (by simp -implicitDefEqProofs [H2, g17, g42, g84] <;> first | exact ⟨rfl, rfl, rfl, rfl⟩ | rfl) ?_
                refine DrO.nil ⟨by kernel_rfl, ?_⟩
                refine WpC.condF (by simp -implicitDefEqProofs [H2, g17, g42, g84] <;> rfl) ?_
                refine WpC.skip ?_
                refine qr (by simp -implicitDefEqProofs [H2, g17, g42, g84] <;> rfl) ?_
                exact ⟨hlt, (), trivial, Gh.cut' [71, 3, 69, 70] 0 (by simp -implicitDefEqProofs [H2, g17, g42, g84, g17', g42', g84']) (by simp) rfl (by simp) (by simp) (by simp)⟩
          refine WpC.exit ?_
          have hkn : k = l.length := by omega
          subst hkn
          refine WpC.seq ?_
          refine WpC.region ?_
          refine WpO.data (by simp) rfl (by simp -implicitDefEqProofs [H1, g17, g42] <;> rfl) (by simp -implicitDefEqProofs [H1, g17, g42] <;> rfl) (by simp -implicitDefEqProofs [H1, g17, g42] <;> rfl) call_8 (by simp) (awake_ok) (by rfl) (by simp -implicitDefEqProofs [H1, g17, g42] <;> rfl) ?_
          refine WpO.run tabOk 1 (by simp -implicitDefEqProofs [H1, g17, g42] <;> first | exact ⟨rfl, rfl⟩ | rfl) ?_
          refine WpO.nil ?_
          refine WpC.ret ?_
          try simp only [blockQ, seqQ]
          refine retD_i (by simp -implicitDefEqProofs [H1, g17, g42] <;> rfl) (by simp -implicitDefEqProofs [H1, g17, g42] <;> rfl) ?_
          simp -implicitDefEqProofs [H1, g17, g42]
      · try (exfalso; revert g42; simp; done)
        all_goals
          have g42' := g42; first | simp only [dT, dF] at g42' | try simp at g42'
          refine WpO.run tabOk 5 (by simp -implicitDefEqProofs [H1, g17, g42] <;> first | exact ⟨rfl, rfl⟩ | rfl) ?_
          refine WpO.splitB 47 (by simp -implicitDefEqProofs [H1, g17, g42] <;> rfl) (by rfl) (fun g47 => ?_) (fun g47 => ?_)
          · try (exfalso; revert g47; simp; done)
            all_goals
              have g47' := g47; first | simp only [dT, dF] at g47' | try simp at g47'
              refine WpO.run tabOk 20 (by simp -implicitDefEqProofs [H1, g17, g42, g47] <;> first | exact ⟨rfl, rfl⟩ | rfl) ?_
              refine WpO.nil ?_
              refine WpC.condF (by simp -implicitDefEqProofs [H1, g17, g42, g47] <;> rfl) ?_
              refine WpC.skip ?_
              refine WpC.seq ?_
              refine qR (by simp -implicitDefEqProofs [H1, g17, g42, g47] <;> rfl) ?_
              refine WpC.block ?_
              refine WpC.loopK [3, 69, 70] [71] (l.length) (() : Unit) (fun k _ => [(71, .d (.int .i64 k))]) (fun k _ => []) (fun k _ => True) (by simp -implicitDefEqProofs [H1, g17, g42, g47] <;> rfl) (Gh.cut' [71, 3, 69, 70] 0 (by simp -implicitDefEqProofs [H1, g17, g42, g47]) (by simp -implicitDefEqProofs [H1, g17, g42, g47]) rfl (by simp) (by simp) (by simp)) (by simp) ?_
              rintro k ⟨⟩ hk hi
              simp only [List.cons_append, List.nil_append]
              refine qR (by simp -implicitDefEqProofs [H1, g17, g42, g47] <;> rfl) ?_
              refine WpC.seq (WpC.condD (k < l.length) (by simp -implicitDefEqProofs [H1, g17, g42, g47] <;> omega) (fun hlt => ?_) (fun hge => ?_))
              · refine WpC.skip ?_
                have hkl : k < l.length := by omega
                obtain ⟨p, hp⟩ : ∃ p, l[k] = p := ⟨_, rfl⟩
                have hwk : IntKind.i64.wrap ((k : Int) + 1) = k + 1 := wrapI (by omega) (by omega)
                have v1 : IntKind.i64.wrap (28 * (k : Int)) = 28 * k := wrapI (by omega) (by omega)
                obtain ⟨j1, hj1⟩ : ∃ i, 7 + 28 * k = i := ⟨_, rfl⟩
                obtain ⟨j2, hj2⟩ : ∃ i, 34 + 28 * k = i := ⟨_, rfl⟩
                have v2 : IntKind.i64.wrap (7 + 28 * (k : Int)) = (j1 : Int) := by rw [wrapI (by omega) (by omega)]; omega
                have v3 : IntKind.i64.wrap ((j1 : Int) + 27) = (j2 : Int) := by rw [wrapI (by omega) (by omega)]; omega
                have u1 := (fk k hkl).1
                have u2 := (fk k hkl).2
                rw [hj1, hp] at u1
                rw [hj2] at u2
                have hok := right_at (by simp only [rightB, Bool.and_eq_true, decide_eq_true_eq] at hr; exact hr.1.1.1) hkl
                rw [hp] at hok
                simp only [okB, Bool.and_eq_true, Bool.or_eq_true, decide_eq_true_eq] at hok
                obtain ⟨c, hc⟩ : ∃ c, UInt8.ofNat p.kind.toNat = c := ⟨_, rfl⟩
                rw [hc] at u1
                have hcc : (c.toNat : Int) = p.kind := by rw [← hc, UInt8.toNat_ofNat']; omega
                have H3 := And.intro H1 (And.intro hlt (And.intro hkl (And.intro hp (And.intro hwk (And.intro v1 (And.intro v2 (And.intro v3 (And.intro u1 (And.intro u2 hcc)))))))))
                refine WpC.seq ?_
                refine WpC.block ?_
                refine qR (by simp -implicitDefEqProofs [H3, g17, g42, g47] <;> rfl) ?_
                refine WpC.seq ?_
                refine WpC.drawn tabOk (by kernel_rfl) 0 (by simp) ?_
                refine DrO.run (fz := []) 3 (by simp -implicitDefEqProofs [H3, g17, g42, g47] <;> first | exact ⟨rfl, rfl, rfl, rfl⟩ | rfl) ?_
                refine DrO.run (fz := []) 3 (by simp -implicitDefEqProofs [H3, g17, g42, g47] <;> first | exact ⟨rfl, rfl, rfl, rfl⟩ | rfl) ?_
                refine DrO.run (fz := []) 3 (by simp -implicitDefEqProofs [H3, g17, g42, g47] <;> first | exact ⟨rfl, rfl, rfl, rfl⟩ | rfl) ?_
                refine DrO.splitB 84 (by simp -implicitDefEqProofs [H3, g17, g42, g47] <;> rfl) (by rfl) (fun g84 => ?_) (fun g84 => ?_)
                · try (exfalso; revert g84; simp; done)
                  all_goals
                    have g84' := g84; first | simp only [dT, dF] at g84' | try simp at g84'
                    refine DrO.run (fz := []) 3 (by simp -implicitDefEqProofs [H3, g17, g42, g47, g84] <;> first | exact ⟨rfl, rfl, rfl, rfl⟩ | rfl) ?_
                    refine DrO.run (fz := []) 3 (by simp -implicitDefEqProofs [H3, g17, g42, g47, g84] <;> first | exact ⟨rfl, rfl, rfl, rfl⟩ | rfl) ?_
                    refine DrO.run (fz := []) 2 (by simp -implicitDefEqProofs [H3, g17, g42, g47, g84] <;> first | exact ⟨rfl, rfl, rfl, rfl⟩ | rfl) ?_
                    refine DrO.nil ⟨by kernel_rfl, ?_⟩
                    refine WpC.condF (by simp -implicitDefEqProofs [H3, g17, g42, g47, g84] <;> rfl) ?_
                    refine WpC.skip ?_
                    refine qr (by simp -implicitDefEqProofs [H3, g17, g42, g47, g84] <;> rfl) ?_
                    exact ⟨hlt, (), trivial, Gh.cut' [71, 3, 69, 70] 0 (by simp -implicitDefEqProofs [H3, g17, g42, g47, g84, g17', g42', g47', g84']) (by simp) rfl (by simp) (by simp) (by simp)⟩
                · try (exfalso; revert g84; simp; done)
                  all_goals
                    have g84' := g84; first | simp only [dT, dF] at g84' | try simp at g84'
                    refine DrO.run (fz := []) 3 (by simp -implicitDefEqProofs [H3, g17, g42, g47, g84] <;> first | exact ⟨rfl, rfl, rfl, rfl⟩ | rfl) ?_
                    refine DrO.run (fz := []) 3 (by simp -implicitDefEqProofs [H3, g17, g42, g47, g84] <;> first | exact ⟨rfl, rfl, rfl, rfl⟩ | rfl) ?_
                    refine DrO.run (fz := []) 2 (by simp -implicitDefEqProofs [H3, g17, g42, g47, g84] <;> first | exact ⟨rfl, rfl, rfl, rfl⟩ | rfl) ?_
                    refine DrO.nil ⟨by kernel_rfl, ?_⟩
                    refine WpC.condF (by simp -implicitDefEqProofs [H3, g17, g42, g47, g84] <;> rfl) ?_
                    refine WpC.skip ?_
                    refine qr (by simp -implicitDefEqProofs [H3, g17, g42, g47, g84] <;> rfl) ?_
                    exact ⟨hlt, (), trivial, Gh.cut' [71, 3, 69, 70] 0 (by simp -implicitDefEqProofs [H3, g17, g42, g47, g84, g17', g42', g47', g84']) (by simp) rfl (by simp) (by simp) (by simp)⟩
              refine WpC.exit ?_
              have hkn : k = l.length := by omega
              subst hkn
              refine WpC.seq ?_
              refine WpC.region ?_
              refine WpO.data (by simp) rfl (by simp -implicitDefEqProofs [H1, g17, g42, g47] <;> rfl) (by simp -implicitDefEqProofs [H1, g17, g42, g47] <;> rfl) (by simp -implicitDefEqProofs [H1, g17, g42, g47] <;> rfl) call_8 (by simp) (awake_ok) (by rfl) (by simp -implicitDefEqProofs [H1, g17, g42, g47] <;> rfl) ?_
              refine WpO.run tabOk 1 (by simp -implicitDefEqProofs [H1, g17, g42, g47] <;> first | exact ⟨rfl, rfl⟩ | rfl) ?_
              refine WpO.nil ?_
              refine WpC.ret ?_
              try simp only [blockQ, seqQ]
              refine retD_i (by simp -implicitDefEqProofs [H1, g17, g42, g47] <;> rfl) (by simp -implicitDefEqProofs [H1, g17, g42, g47] <;> rfl) ?_
              simp -implicitDefEqProofs [H1, g17, g42, g47]
          · try (exfalso; revert g47; simp; done)
            all_goals
              have g47' := g47; first | simp only [dT, dF] at g47' | try simp at g47'
              refine WpO.run tabOk 5 (by simp -implicitDefEqProofs [H1, g17, g42, g47] <;> first | exact ⟨rfl, rfl⟩ | rfl) ?_
              refine WpO.splitB 52 (by simp -implicitDefEqProofs [H1, g17, g42, g47] <;> rfl) (by rfl) (fun g52 => ?_) (fun g52 => ?_)
              · try (exfalso; revert g52; simp; done)
                all_goals
                  have g52' := g52; first | simp only [dT, dF] at g52' | try simp at g52'
                  refine WpO.run tabOk 15 (by simp -implicitDefEqProofs [H1, g17, g42, g47, g52] <;> first | exact ⟨rfl, rfl⟩ | rfl) ?_
                  refine WpO.nil ?_
                  refine WpC.condF (by simp -implicitDefEqProofs [H1, g17, g42, g47, g52] <;> rfl) ?_
                  refine WpC.skip ?_
                  refine WpC.seq ?_
                  refine qR (by simp -implicitDefEqProofs [H1, g17, g42, g47, g52] <;> rfl) ?_
                  refine WpC.block ?_
                  refine WpC.loopK [3, 69, 70] [71] (l.length) (() : Unit) (fun k _ => [(71, .d (.int .i64 k))]) (fun k _ => []) (fun k _ => True) (by simp -implicitDefEqProofs [H1, g17, g42, g47, g52] <;> rfl) (Gh.cut' [71, 3, 69, 70] 0 (by simp -implicitDefEqProofs [H1, g17, g42, g47, g52]) (by simp -implicitDefEqProofs [H1, g17, g42, g47, g52]) rfl (by simp) (by simp) (by simp)) (by simp) ?_
                  rintro k ⟨⟩ hk hi
                  simp only [List.cons_append, List.nil_append]
                  refine qR (by simp -implicitDefEqProofs [H1, g17, g42, g47, g52] <;> rfl) ?_
                  refine WpC.seq (WpC.condD (k < l.length) (by simp -implicitDefEqProofs [H1, g17, g42, g47, g52] <;> omega) (fun hlt => ?_) (fun hge => ?_))
                  · refine WpC.skip ?_
                    have hkl : k < l.length := by omega
                    obtain ⟨p, hp⟩ : ∃ p, l[k] = p := ⟨_, rfl⟩
                    have hwk : IntKind.i64.wrap ((k : Int) + 1) = k + 1 := wrapI (by omega) (by omega)
                    have v1 : IntKind.i64.wrap (28 * (k : Int)) = 28 * k := wrapI (by omega) (by omega)
                    obtain ⟨j1, hj1⟩ : ∃ i, 7 + 28 * k = i := ⟨_, rfl⟩
                    obtain ⟨j2, hj2⟩ : ∃ i, 34 + 28 * k = i := ⟨_, rfl⟩
                    have v2 : IntKind.i64.wrap (7 + 28 * (k : Int)) = (j1 : Int) := by rw [wrapI (by omega) (by omega)]; omega
                    have v3 : IntKind.i64.wrap ((j1 : Int) + 27) = (j2 : Int) := by rw [wrapI (by omega) (by omega)]; omega
                    have u1 := (fk k hkl).1
                    have u2 := (fk k hkl).2
                    rw [hj1, hp] at u1
                    rw [hj2] at u2
                    have hok := right_at (by simp only [rightB, Bool.and_eq_true, decide_eq_true_eq] at hr; exact hr.1.1.1) hkl
                    rw [hp] at hok
                    simp only [okB, Bool.and_eq_true, Bool.or_eq_true, decide_eq_true_eq] at hok
                    obtain ⟨c, hc⟩ : ∃ c, UInt8.ofNat p.kind.toNat = c := ⟨_, rfl⟩
                    rw [hc] at u1
                    have hcc : (c.toNat : Int) = p.kind := by rw [← hc, UInt8.toNat_ofNat']; omega
                    have H4 := And.intro H1 (And.intro hlt (And.intro hkl (And.intro hp (And.intro hwk (And.intro v1 (And.intro v2 (And.intro v3 (And.intro u1 (And.intro u2 hcc)))))))))
                    refine WpC.seq ?_
                    refine WpC.block ?_
                    refine qR (by simp -implicitDefEqProofs [H4, g17, g42, g47, g52] <;> rfl) ?_
                    refine WpC.seq ?_
                    refine WpC.drawn tabOk (by kernel_rfl) 0 (by simp) ?_
                    refine DrO.run (fz := []) 3 (by simp -implicitDefEqProofs [H4, g17, g42, g47, g52] <;> first | exact ⟨rfl, rfl, rfl, rfl⟩ | rfl) ?_
                    refine DrO.run (fz := []) 3 (by simp -implicitDefEqProofs [H4, g17, g42, g47, g52] <;> first | exact ⟨rfl, rfl, rfl, rfl⟩ | rfl) ?_
                    refine DrO.run (fz := []) 3 (by simp -implicitDefEqProofs [H4, g17, g42, g47, g52] <;> first | exact ⟨rfl, rfl, rfl, rfl⟩ | rfl) ?_
                    refine DrO.splitB 84 (by simp -implicitDefEqProofs [H4, g17, g42, g47, g52] <;> rfl) (by rfl) (fun g84 => ?_) (fun g84 => ?_)
                    · try (exfalso; revert g84; simp; done)
                      all_goals
                        have g84' := g84; first | simp only [dT, dF] at g84' | try simp at g84'
                        refine DrO.run (fz := []) 3 (by simp -implicitDefEqProofs [H4, g17, g42, g47, g52, g84] <;> first | exact ⟨rfl, rfl, rfl, rfl⟩ | rfl) ?_
                        refine DrO.run (fz := []) 3 (by simp -implicitDefEqProofs [H4, g17, g42, g47, g52, g84] <;> first | exact ⟨rfl, rfl, rfl, rfl⟩ | rfl) ?_
                        refine DrO.run (fz := []) 2 (by simp -implicitDefEqProofs [H4, g17, g42, g47, g52, g84] <;> first | exact ⟨rfl, rfl, rfl, rfl⟩ | rfl) ?_
                        refine DrO.nil ⟨by kernel_rfl, ?_⟩
                        refine WpC.condF (by simp -implicitDefEqProofs [H4, g17, g42, g47, g52, g84] <;> rfl) ?_
                        refine WpC.skip ?_
                        refine qr (by simp -implicitDefEqProofs [H4, g17, g42, g47, g52, g84] <;> rfl) ?_
                        exact ⟨hlt, (), trivial, Gh.cut' [71, 3, 69, 70] 0 (by simp -implicitDefEqProofs [H4, g17, g42, g47, g52, g84, g17', g42', g47', g52', g84']) (by simp) rfl (by simp) (by simp) (by simp)⟩
                    · try (exfalso; revert g84; simp; done)
                      all_goals
                        have g84' := g84; first | simp only [dT, dF] at g84' | try simp at g84'
                        refine DrO.run (fz := []) 3 (by simp -implicitDefEqProofs [H4, g17, g42, g47, g52, g84] <;> first | exact ⟨rfl, rfl, rfl, rfl⟩ | rfl) ?_
                        refine DrO.run (fz := []) 3 (by simp -implicitDefEqProofs [H4, g17, g42, g47, g52, g84] <;> first | exact ⟨rfl, rfl, rfl, rfl⟩ | rfl) ?_
                        refine DrO.run (fz := []) 2 (by simp -implicitDefEqProofs [H4, g17, g42, g47, g52, g84] <;> first | exact ⟨rfl, rfl, rfl, rfl⟩ | rfl) ?_
                        refine DrO.nil ⟨by kernel_rfl, ?_⟩
                        refine WpC.condF (by simp -implicitDefEqProofs [H4, g17, g42, g47, g52, g84] <;> rfl) ?_
                        refine WpC.skip ?_
                        refine qr (by simp -implicitDefEqProofs [H4, g17, g42, g47, g52, g84] <;> rfl) ?_
                        exact ⟨hlt, (), trivial, Gh.cut' [71, 3, 69, 70] 0 (by simp -implicitDefEqProofs [H4, g17, g42, g47, g52, g84, g17', g42', g47', g52', g84']) (by simp) rfl (by simp) (by simp) (by simp)⟩
                  refine WpC.exit ?_
                  have hkn : k = l.length := by omega
                  subst hkn
                  refine WpC.seq ?_
                  refine WpC.region ?_
                  refine WpO.data (by simp) rfl (by simp -implicitDefEqProofs [H1, g17, g42, g47, g52] <;> rfl) (by simp -implicitDefEqProofs [H1, g17, g42, g47, g52] <;> rfl) (by simp -implicitDefEqProofs [H1, g17, g42, g47, g52] <;> rfl) call_8 (by simp) (awake_ok) (by rfl) (by simp -implicitDefEqProofs [H1, g17, g42, g47, g52] <;> rfl) ?_
                  refine WpO.run tabOk 1 (by simp -implicitDefEqProofs [H1, g17, g42, g47, g52] <;> first | exact ⟨rfl, rfl⟩ | rfl) ?_
                  refine WpO.nil ?_
                  refine WpC.ret ?_
                  try simp only [blockQ, seqQ]
                  refine retD_i (by simp -implicitDefEqProofs [H1, g17, g42, g47, g52] <;> rfl) (by simp -implicitDefEqProofs [H1, g17, g42, g47, g52] <;> rfl) ?_
                  simp -implicitDefEqProofs [H1, g17, g42, g47, g52]
              · try (exfalso; revert g52; simp; done)
                all_goals
                  have g52' := g52; first | simp only [dT, dF] at g52' | try simp at g52'
                  refine WpO.run tabOk 8 (by simp -implicitDefEqProofs [H1, g17, g42, g47, g52] <;> first | exact ⟨rfl, rfl⟩ | rfl) ?_
                  refine WpO.splitB 60 (by simp -implicitDefEqProofs [H1, g17, g42, g47, g52] <;> rfl) (by rfl) (fun g60 => ?_) (fun g60 => ?_)
                  · try (exfalso; revert g60; simp; done)
                    all_goals
                      have g60' := g60; first | simp only [dT, dF] at g60' | try simp at g60'
                      refine WpO.run tabOk 7 (by simp -implicitDefEqProofs [H1, g17, g42, g47, g52, g60] <;> first | exact ⟨rfl, rfl⟩ | rfl) ?_
                      refine WpO.nil ?_
                      refine WpC.condF (by simp -implicitDefEqProofs [H1, g17, g42, g47, g52, g60] <;> rfl) ?_
                      refine WpC.skip ?_
                      refine WpC.seq ?_
                      refine qR (by simp -implicitDefEqProofs [H1, g17, g42, g47, g52, g60] <;> rfl) ?_
                      refine WpC.block ?_
                      refine WpC.loopK [3, 69, 70] [71] (l.length) (() : Unit) (fun k _ => [(71, .d (.int .i64 k))]) (fun k _ => []) (fun k _ => True) (by simp -implicitDefEqProofs [H1, g17, g42, g47, g52, g60] <;> rfl) (Gh.cut' [71, 3, 69, 70] 0 (by simp -implicitDefEqProofs [H1, g17, g42, g47, g52, g60]) (by simp -implicitDefEqProofs [H1, g17, g42, g47, g52, g60]) rfl (by simp) (by simp) (by simp)) (by simp) ?_
                      rintro k ⟨⟩ hk hi
                      simp only [List.cons_append, List.nil_append]
                      refine qR (by simp -implicitDefEqProofs [H1, g17, g42, g47, g52, g60] <;> rfl) ?_
                      refine WpC.seq (WpC.condD (k < l.length) (by simp -implicitDefEqProofs [H1, g17, g42, g47, g52, g60] <;> omega) (fun hlt => ?_) (fun hge => ?_))
                      · refine WpC.skip ?_
                        have hkl : k < l.length := by omega
                        obtain ⟨p, hp⟩ : ∃ p, l[k] = p := ⟨_, rfl⟩
                        have hwk : IntKind.i64.wrap ((k : Int) + 1) = k + 1 := wrapI (by omega) (by omega)
                        have v1 : IntKind.i64.wrap (28 * (k : Int)) = 28 * k := wrapI (by omega) (by omega)
                        obtain ⟨j1, hj1⟩ : ∃ i, 7 + 28 * k = i := ⟨_, rfl⟩
                        obtain ⟨j2, hj2⟩ : ∃ i, 34 + 28 * k = i := ⟨_, rfl⟩
                        have v2 : IntKind.i64.wrap (7 + 28 * (k : Int)) = (j1 : Int) := by rw [wrapI (by omega) (by omega)]; omega
                        have v3 : IntKind.i64.wrap ((j1 : Int) + 27) = (j2 : Int) := by rw [wrapI (by omega) (by omega)]; omega
                        have u1 := (fk k hkl).1
                        have u2 := (fk k hkl).2
                        rw [hj1, hp] at u1
                        rw [hj2] at u2
                        have hok := right_at (by simp only [rightB, Bool.and_eq_true, decide_eq_true_eq] at hr; exact hr.1.1.1) hkl
                        rw [hp] at hok
                        simp only [okB, Bool.and_eq_true, Bool.or_eq_true, decide_eq_true_eq] at hok
                        obtain ⟨c, hc⟩ : ∃ c, UInt8.ofNat p.kind.toNat = c := ⟨_, rfl⟩
                        rw [hc] at u1
                        have hcc : (c.toNat : Int) = p.kind := by rw [← hc, UInt8.toNat_ofNat']; omega
                        have H5 := And.intro H1 (And.intro hlt (And.intro hkl (And.intro hp (And.intro hwk (And.intro v1 (And.intro v2 (And.intro v3 (And.intro u1 (And.intro u2 hcc)))))))))
                        refine WpC.seq ?_
                        refine WpC.block ?_
                        refine qR (by simp -implicitDefEqProofs [H5, g17, g42, g47, g52, g60] <;> rfl) ?_
                        refine WpC.seq ?_
                        refine WpC.drawn tabOk (by kernel_rfl) 0 (by simp) ?_
                        refine DrO.run (fz := []) 3 (by simp -implicitDefEqProofs [H5, g17, g42, g47, g52, g60] <;> first | exact ⟨rfl, rfl, rfl, rfl⟩ | rfl) ?_
                        refine DrO.run (fz := []) 3 (by simp -implicitDefEqProofs [H5, g17, g42, g47, g52, g60] <;> first | exact ⟨rfl, rfl, rfl, rfl⟩ | rfl) ?_
                        refine DrO.run (fz := []) 3 (by simp -implicitDefEqProofs [H5, g17, g42, g47, g52, g60] <;> first | exact ⟨rfl, rfl, rfl, rfl⟩ | rfl) ?_
                        refine DrO.splitB 84 (by simp -implicitDefEqProofs [H5, g17, g42, g47, g52, g60] <;> rfl) (by rfl) (fun g84 => ?_) (fun g84 => ?_)
                        · try (exfalso; revert g84; simp; done)
                          all_goals
                            have g84' := g84; first | simp only [dT, dF] at g84' | try simp at g84'
                            refine DrO.run (fz := []) 3 (by simp -implicitDefEqProofs [H5, g17, g42, g47, g52, g60, g84] <;> first | exact ⟨rfl, rfl, rfl, rfl⟩ | rfl) ?_
                            refine DrO.run (fz := []) 3 (by simp -implicitDefEqProofs [H5, g17, g42, g47, g52, g60, g84] <;> first | exact ⟨rfl, rfl, rfl, rfl⟩ | rfl) ?_
                            refine DrO.run (fz := []) 2 (by simp -implicitDefEqProofs [H5, g17, g42, g47, g52, g60, g84] <;> first | exact ⟨rfl, rfl, rfl, rfl⟩ | rfl) ?_
                            refine DrO.nil ⟨by kernel_rfl, ?_⟩
                            refine WpC.condF (by simp -implicitDefEqProofs [H5, g17, g42, g47, g52, g60, g84] <;> rfl) ?_
                            refine WpC.skip ?_
                            refine qr (by simp -implicitDefEqProofs [H5, g17, g42, g47, g52, g60, g84] <;> rfl) ?_
                            exact ⟨hlt, (), trivial, Gh.cut' [71, 3, 69, 70] 0 (by simp -implicitDefEqProofs [H5, g17, g42, g47, g52, g60, g84, g17', g42', g47', g52', g60', g84']) (by simp) rfl (by simp) (by simp) (by simp)⟩
                        · try (exfalso; revert g84; simp; done)
                          all_goals
                            have g84' := g84; first | simp only [dT, dF] at g84' | try simp at g84'
                            refine DrO.run (fz := []) 3 (by simp -implicitDefEqProofs [H5, g17, g42, g47, g52, g60, g84] <;> first | exact ⟨rfl, rfl, rfl, rfl⟩ | rfl) ?_
                            refine DrO.run (fz := []) 3 (by simp -implicitDefEqProofs [H5, g17, g42, g47, g52, g60, g84] <;> first | exact ⟨rfl, rfl, rfl, rfl⟩ | rfl) ?_
                            refine DrO.run (fz := []) 2 (by simp -implicitDefEqProofs [H5, g17, g42, g47, g52, g60, g84] <;> first | exact ⟨rfl, rfl, rfl, rfl⟩ | rfl) ?_
                            refine DrO.nil ⟨by kernel_rfl, ?_⟩
                            refine WpC.condF (by simp -implicitDefEqProofs [H5, g17, g42, g47, g52, g60, g84] <;> rfl) ?_
                            refine WpC.skip ?_
                            refine qr (by simp -implicitDefEqProofs [H5, g17, g42, g47, g52, g60, g84] <;> rfl) ?_
                            exact ⟨hlt, (), trivial, Gh.cut' [71, 3, 69, 70] 0 (by simp -implicitDefEqProofs [H5, g17, g42, g47, g52, g60, g84, g17', g42', g47', g52', g60', g84']) (by simp) rfl (by simp) (by simp) (by simp)⟩
                      refine WpC.exit ?_
                      have hkn : k = l.length := by omega
                      subst hkn
                      refine WpC.seq ?_
                      refine WpC.region ?_
                      refine WpO.data (by simp) rfl (by simp -implicitDefEqProofs [H1, g17, g42, g47, g52, g60] <;> rfl) (by simp -implicitDefEqProofs [H1, g17, g42, g47, g52, g60] <;> rfl) (by simp -implicitDefEqProofs [H1, g17, g42, g47, g52, g60] <;> rfl) call_8 (by simp) (awake_ok) (by rfl) (by simp -implicitDefEqProofs [H1, g17, g42, g47, g52, g60] <;> rfl) ?_
                      refine WpO.run tabOk 1 (by simp -implicitDefEqProofs [H1, g17, g42, g47, g52, g60] <;> first | exact ⟨rfl, rfl⟩ | rfl) ?_
                      refine WpO.nil ?_
                      refine WpC.ret ?_
                      try simp only [blockQ, seqQ]
                      refine retD_i (by simp -implicitDefEqProofs [H1, g17, g42, g47, g52, g60] <;> rfl) (by simp -implicitDefEqProofs [H1, g17, g42, g47, g52, g60] <;> rfl) ?_
                      simp -implicitDefEqProofs [H1, g17, g42, g47, g52, g60]
                  · try (exfalso; revert g60; simp; done)
                    all_goals
                      have g60' := g60; first | simp only [dT, dF] at g60' | try simp at g60'
                      refine WpO.run tabOk 7 (by simp -implicitDefEqProofs [H1, g17, g42, g47, g52, g60] <;> first | exact ⟨rfl, rfl⟩ | rfl) ?_
                      refine WpO.nil ?_
                      refine WpC.condF (by simp -implicitDefEqProofs [H1, g17, g42, g47, g52, g60] <;> rfl) ?_
                      refine WpC.skip ?_
                      refine WpC.seq ?_
                      refine qR (by simp -implicitDefEqProofs [H1, g17, g42, g47, g52, g60] <;> rfl) ?_
                      refine WpC.block ?_
                      refine WpC.loopK [3, 69, 70] [71] (l.length) (() : Unit) (fun k _ => [(71, .d (.int .i64 k))]) (fun k _ => []) (fun k _ => True) (by simp -implicitDefEqProofs [H1, g17, g42, g47, g52, g60] <;> rfl) (Gh.cut' [71, 3, 69, 70] 0 (by simp -implicitDefEqProofs [H1, g17, g42, g47, g52, g60]) (by simp -implicitDefEqProofs [H1, g17, g42, g47, g52, g60]) rfl (by simp) (by simp) (by simp)) (by simp) ?_
                      rintro k ⟨⟩ hk hi
                      simp only [List.cons_append, List.nil_append]
                      refine qR (by simp -implicitDefEqProofs [H1, g17, g42, g47, g52, g60] <;> rfl) ?_
                      refine WpC.seq (WpC.condD (k < l.length) (by simp -implicitDefEqProofs [H1, g17, g42, g47, g52, g60] <;> omega) (fun hlt => ?_) (fun hge => ?_))
                      · refine WpC.skip ?_
                        have hkl : k < l.length := by omega
                        obtain ⟨p, hp⟩ : ∃ p, l[k] = p := ⟨_, rfl⟩
                        have hwk : IntKind.i64.wrap ((k : Int) + 1) = k + 1 := wrapI (by omega) (by omega)
                        have v1 : IntKind.i64.wrap (28 * (k : Int)) = 28 * k := wrapI (by omega) (by omega)
                        obtain ⟨j1, hj1⟩ : ∃ i, 7 + 28 * k = i := ⟨_, rfl⟩
                        obtain ⟨j2, hj2⟩ : ∃ i, 34 + 28 * k = i := ⟨_, rfl⟩
                        have v2 : IntKind.i64.wrap (7 + 28 * (k : Int)) = (j1 : Int) := by rw [wrapI (by omega) (by omega)]; omega
                        have v3 : IntKind.i64.wrap ((j1 : Int) + 27) = (j2 : Int) := by rw [wrapI (by omega) (by omega)]; omega
                        have u1 := (fk k hkl).1
                        have u2 := (fk k hkl).2
                        rw [hj1, hp] at u1
                        rw [hj2] at u2
                        have hok := right_at (by simp only [rightB, Bool.and_eq_true, decide_eq_true_eq] at hr; exact hr.1.1.1) hkl
                        rw [hp] at hok
                        simp only [okB, Bool.and_eq_true, Bool.or_eq_true, decide_eq_true_eq] at hok
                        obtain ⟨c, hc⟩ : ∃ c, UInt8.ofNat p.kind.toNat = c := ⟨_, rfl⟩
                        rw [hc] at u1
                        have hcc : (c.toNat : Int) = p.kind := by rw [← hc, UInt8.toNat_ofNat']; omega
                        have H6 := And.intro H1 (And.intro hlt (And.intro hkl (And.intro hp (And.intro hwk (And.intro v1 (And.intro v2 (And.intro v3 (And.intro u1 (And.intro u2 hcc)))))))))
                        refine WpC.seq ?_
                        refine WpC.block ?_
                        refine qR (by simp -implicitDefEqProofs [H6, g17, g42, g47, g52, g60] <;> rfl) ?_
                        refine WpC.seq ?_
                        refine WpC.drawn tabOk (by kernel_rfl) 0 (by simp) ?_
                        refine DrO.run (fz := []) 3 (by simp -implicitDefEqProofs [H6, g17, g42, g47, g52, g60] <;> first | exact ⟨rfl, rfl, rfl, rfl⟩ | rfl) ?_
                        refine DrO.run (fz := []) 3 (by simp -implicitDefEqProofs [H6, g17, g42, g47, g52, g60] <;> first | exact ⟨rfl, rfl, rfl, rfl⟩ | rfl) ?_
                        refine DrO.run (fz := []) 3 (by simp -implicitDefEqProofs [H6, g17, g42, g47, g52, g60] <;> first | exact ⟨rfl, rfl, rfl, rfl⟩ | rfl) ?_
                        refine DrO.splitB 84 (by simp -implicitDefEqProofs [H6, g17, g42, g47, g52, g60] <;> rfl) (by rfl) (fun g84 => ?_) (fun g84 => ?_)
                        · try (exfalso; revert g84; simp; done)
                          all_goals
                            have g84' := g84; first | simp only [dT, dF] at g84' | try simp at g84'
                            refine DrO.run (fz := []) 3 (by simp -implicitDefEqProofs [H6, g17, g42, g47, g52, g60, g84] <;> first | exact ⟨rfl, rfl, rfl, rfl⟩ | rfl) ?_
                            refine DrO.run (fz := []) 3 (by simp -implicitDefEqProofs [H6, g17, g42, g47, g52, g60, g84] <;> first | exact ⟨rfl, rfl, rfl, rfl⟩ | rfl) ?_
                            refine DrO.run (fz := []) 2 (by simp -implicitDefEqProofs [H6, g17, g42, g47, g52, g60, g84] <;> first | exact ⟨rfl, rfl, rfl, rfl⟩ | rfl) ?_
                            refine DrO.nil ⟨by kernel_rfl, ?_⟩
                            refine WpC.condF (by simp -implicitDefEqProofs [H6, g17, g42, g47, g52, g60, g84] <;> rfl) ?_
                            refine WpC.skip ?_
                            refine qr (by simp -implicitDefEqProofs [H6, g17, g42, g47, g52, g60, g84] <;> rfl) ?_
                            exact ⟨hlt, (), trivial, Gh.cut' [71, 3, 69, 70] 0 (by simp -implicitDefEqProofs [H6, g17, g42, g47, g52, g60, g84, g17', g42', g47', g52', g60', g84']) (by simp) rfl (by simp) (by simp) (by simp)⟩
                        · try (exfalso; revert g84; simp; done)
                          all_goals
                            have g84' := g84; first | simp only [dT, dF] at g84' | try simp at g84'
                            refine DrO.run (fz := []) 3 (by simp -implicitDefEqProofs [H6, g17, g42, g47, g52, g60, g84] <;> first | exact ⟨rfl, rfl, rfl, rfl⟩ | rfl) ?_
                            refine DrO.run (fz := []) 3 (by simp -implicitDefEqProofs [H6, g17, g42, g47, g52, g60, g84] <;> first | exact ⟨rfl, rfl, rfl, rfl⟩ | rfl) ?_
                            refine DrO.run (fz := []) 2 (by simp -implicitDefEqProofs [H6, g17, g42, g47, g52, g60, g84] <;> first | exact ⟨rfl, rfl, rfl, rfl⟩ | rfl) ?_
                            refine DrO.nil ⟨by kernel_rfl, ?_⟩
                            refine WpC.condF (by simp -implicitDefEqProofs [H6, g17, g42, g47, g52, g60, g84] <;> rfl) ?_
                            refine WpC.skip ?_
                            refine qr (by simp -implicitDefEqProofs [H6, g17, g42, g47, g52, g60, g84] <;> rfl) ?_
                            exact ⟨hlt, (), trivial, Gh.cut' [71, 3, 69, 70] 0 (by simp -implicitDefEqProofs [H6, g17, g42, g47, g52, g60, g84, g17', g42', g47', g52', g60', g84']) (by simp) rfl (by simp) (by simp) (by simp)⟩
                      refine WpC.exit ?_
                      have hkn : k = l.length := by omega
                      subst hkn
                      refine WpC.seq ?_
                      refine WpC.region ?_
                      refine WpO.data (by simp) rfl (by simp -implicitDefEqProofs [H1, g17, g42, g47, g52, g60] <;> rfl) (by simp -implicitDefEqProofs [H1, g17, g42, g47, g52, g60] <;> rfl) (by simp -implicitDefEqProofs [H1, g17, g42, g47, g52, g60] <;> rfl) call_8 (by simp) (awake_ok) (by rfl) (by simp -implicitDefEqProofs [H1, g17, g42, g47, g52, g60] <;> rfl) ?_
                      refine WpO.run tabOk 1 (by simp -implicitDefEqProofs [H1, g17, g42, g47, g52, g60] <;> first | exact ⟨rfl, rfl⟩ | rfl) ?_
                      refine WpO.nil ?_
                      refine WpC.ret ?_
                      try simp only [blockQ, seqQ]
                      refine retD_i (by simp -implicitDefEqProofs [H1, g17, g42, g47, g52, g60] <;> rfl) (by simp -implicitDefEqProofs [H1, g17, g42, g47, g52, g60] <;> rfl) ?_
                      simp -implicitDefEqProofs [H1, g17, g42, g47, g52, g60]
  · try (exfalso; revert g17; simp; done)
    all_goals
      have g17' := g17; first | simp only [dT, dF] at g17' | try simp at g17'
      refine WpO.run tabOk 3 (by simp -implicitDefEqProofs [H1, g17] <;> first | exact ⟨rfl, rfl⟩ | rfl) ?_
      refine WpO.nil ?_
      refine WpC.condF (by simp -implicitDefEqProofs [H1, g17] <;> rfl) ?_
      refine WpC.skip ?_
      refine qR (by simp -implicitDefEqProofs [H1, g17] <;> rfl) ?_
      refine WpC.seq ?_
      refine WpC.seq ?_
      refine WpC.region ?_
      refine WpO.run tabOk 8 (by simp -implicitDefEqProofs [H1, g17] <;> first | exact ⟨rfl, rfl⟩ | rfl) ?_
      refine WpO.splitB 42 (by simp -implicitDefEqProofs [H1, g17] <;> rfl) (by rfl) (fun g42 => ?_) (fun g42 => ?_)
      · try (exfalso; revert g42; simp; done)
        all_goals
          have g42' := g42; first | simp only [dT, dF] at g42' | try simp at g42'
          refine WpO.run tabOk 25 (by simp -implicitDefEqProofs [H1, g17, g42] <;> first | exact ⟨rfl, rfl⟩ | rfl) ?_
          refine WpO.nil ?_
          refine WpC.condF (by simp -implicitDefEqProofs [H1, g17, g42] <;> rfl) ?_
          refine WpC.skip ?_
          refine WpC.seq ?_
          refine qR (by simp -implicitDefEqProofs [H1, g17, g42] <;> rfl) ?_
          refine WpC.block ?_
          refine WpC.loopK [3, 69, 70] [71] (l.length) (() : Unit) (fun k _ => [(71, .d (.int .i64 k))]) (fun k _ => []) (fun k _ => True) (by simp -implicitDefEqProofs [H1, g17, g42] <;> rfl) (Gh.cut' [71, 3, 69, 70] 0 (by simp -implicitDefEqProofs [H1, g17, g42]) (by simp -implicitDefEqProofs [H1, g17, g42]) rfl (by simp) (by simp) (by simp)) (by simp) ?_
          rintro k ⟨⟩ hk hi
          simp only [List.cons_append, List.nil_append]
          refine qR (by simp -implicitDefEqProofs [H1, g17, g42] <;> rfl) ?_
          refine WpC.seq (WpC.condD (k < l.length) (by simp -implicitDefEqProofs [H1, g17, g42] <;> omega) (fun hlt => ?_) (fun hge => ?_))
          · refine WpC.skip ?_
            have hkl : k < l.length := by omega
            obtain ⟨p, hp⟩ : ∃ p, l[k] = p := ⟨_, rfl⟩
            have hwk : IntKind.i64.wrap ((k : Int) + 1) = k + 1 := wrapI (by omega) (by omega)
            have v1 : IntKind.i64.wrap (28 * (k : Int)) = 28 * k := wrapI (by omega) (by omega)
            obtain ⟨j1, hj1⟩ : ∃ i, 7 + 28 * k = i := ⟨_, rfl⟩
            obtain ⟨j2, hj2⟩ : ∃ i, 34 + 28 * k = i := ⟨_, rfl⟩
            have v2 : IntKind.i64.wrap (7 + 28 * (k : Int)) = (j1 : Int) := by rw [wrapI (by omega) (by omega)]; omega
            have v3 : IntKind.i64.wrap ((j1 : Int) + 27) = (j2 : Int) := by rw [wrapI (by omega) (by omega)]; omega
            have u1 := (fk k hkl).1
            have u2 := (fk k hkl).2
            rw [hj1, hp] at u1
            rw [hj2] at u2
            have hok := right_at (by simp only [rightB, Bool.and_eq_true, decide_eq_true_eq] at hr; exact hr.1.1.1) hkl
            rw [hp] at hok
            simp only [okB, Bool.and_eq_true, Bool.or_eq_true, decide_eq_true_eq] at hok
            obtain ⟨c, hc⟩ : ∃ c, UInt8.ofNat p.kind.toNat = c := ⟨_, rfl⟩
            rw [hc] at u1
            have hcc : (c.toNat : Int) = p.kind := by rw [← hc, UInt8.toNat_ofNat']; omega
            have H7 := And.intro H1 (And.intro hlt (And.intro hkl (And.intro hp (And.intro hwk (And.intro v1 (And.intro v2 (And.intro v3 (And.intro u1 (And.intro u2 hcc)))))))))
            refine WpC.seq ?_
            refine WpC.block ?_
            refine qR (by simp -implicitDefEqProofs [H7, g17, g42] <;> rfl) ?_
            refine WpC.seq ?_
            refine WpC.drawn tabOk (by kernel_rfl) 0 (by simp) ?_
            refine DrO.run (fz := []) 3 (by simp -implicitDefEqProofs [H7, g17, g42] <;> first | exact ⟨rfl, rfl, rfl, rfl⟩ | rfl) ?_
            refine DrO.run (fz := []) 3 (by simp -implicitDefEqProofs [H7, g17, g42] <;> first | exact ⟨rfl, rfl, rfl, rfl⟩ | rfl) ?_
            refine DrO.run (fz := []) 3 (by simp -implicitDefEqProofs [H7, g17, g42] <;> first | exact ⟨rfl, rfl, rfl, rfl⟩ | rfl) ?_
            refine DrO.splitB 84 (by simp -implicitDefEqProofs [H7, g17, g42] <;> rfl) (by rfl) (fun g84 => ?_) (fun g84 => ?_)
            · try (exfalso; revert g84; simp; done)
              all_goals
                have g84' := g84; first | simp only [dT, dF] at g84' | try simp at g84'
                refine DrO.run (fz := []) 3 (by simp -implicitDefEqProofs [H7, g17, g42, g84] <;> first | exact ⟨rfl, rfl, rfl, rfl⟩ | rfl) ?_
                refine DrO.run (fz := []) 3 (by simp -implicitDefEqProofs [H7, g17, g42, g84] <;> first | exact ⟨rfl, rfl, rfl, rfl⟩ | rfl) ?_
                refine DrO.run (fz := []) 2 (by simp -implicitDefEqProofs [H7, g17, g42, g84] <;> first | exact ⟨rfl, rfl, rfl, rfl⟩ | rfl) ?_
                refine DrO.nil ⟨by kernel_rfl, ?_⟩
                refine WpC.condF (by simp -implicitDefEqProofs [H7, g17, g42, g84] <;> rfl) ?_
                refine WpC.skip ?_
                refine qr (by simp -implicitDefEqProofs [H7, g17, g42, g84] <;> rfl) ?_
                exact ⟨hlt, (), trivial, Gh.cut' [71, 3, 69, 70] 0 (by simp -implicitDefEqProofs [H7, g17, g42, g84, g17', g42', g84']) (by simp) rfl (by simp) (by simp) (by simp)⟩
            · try (exfalso; revert g84; simp; done)
              all_goals
                have g84' := g84; first | simp only [dT, dF] at g84' | try simp at g84'
                refine DrO.run (fz := []) 3 (by simp -implicitDefEqProofs [H7, g17, g42, g84] <;> first | exact ⟨rfl, rfl, rfl, rfl⟩ | rfl) ?_
                refine DrO.run (fz := []) 3 (by simp -implicitDefEqProofs [H7, g17, g42, g84] <;> first | exact ⟨rfl, rfl, rfl, rfl⟩ | rfl) ?_
                refine DrO.run (fz := []) 2 (by simp -implicitDefEqProofs [H7, g17, g42, g84] <;> first | exact ⟨rfl, rfl, rfl, rfl⟩ | rfl) ?_
                refine DrO.nil ⟨by kernel_rfl, ?_⟩
                refine WpC.condF (by simp -implicitDefEqProofs [H7, g17, g42, g84] <;> rfl) ?_
                refine WpC.skip ?_
                refine qr (by simp -implicitDefEqProofs [H7, g17, g42, g84] <;> rfl) ?_
                exact ⟨hlt, (), trivial, Gh.cut' [71, 3, 69, 70] 0 (by simp -implicitDefEqProofs [H7, g17, g42, g84, g17', g42', g84']) (by simp) rfl (by simp) (by simp) (by simp)⟩
          refine WpC.exit ?_
          have hkn : k = l.length := by omega
          subst hkn
          refine WpC.seq ?_
          refine WpC.region ?_
          refine WpO.data (by simp) rfl (by simp -implicitDefEqProofs [H1, g17, g42] <;> rfl) (by simp -implicitDefEqProofs [H1, g17, g42] <;> rfl) (by simp -implicitDefEqProofs [H1, g17, g42] <;> rfl) call_8 (by simp) (awake_ok) (by rfl) (by simp -implicitDefEqProofs [H1, g17, g42] <;> rfl) ?_
          refine WpO.run tabOk 1 (by simp -implicitDefEqProofs [H1, g17, g42] <;> first | exact ⟨rfl, rfl⟩ | rfl) ?_
          refine WpO.nil ?_
          refine WpC.ret ?_
          try simp only [blockQ, seqQ]
          refine retD_i (by simp -implicitDefEqProofs [H1, g17, g42] <;> rfl) (by simp -implicitDefEqProofs [H1, g17, g42] <;> rfl) ?_
          simp -implicitDefEqProofs [H1, g17, g42]
      · try (exfalso; revert g42; simp; done)
        all_goals
          have g42' := g42; first | simp only [dT, dF] at g42' | try simp at g42'
          refine WpO.run tabOk 5 (by simp -implicitDefEqProofs [H1, g17, g42] <;> first | exact ⟨rfl, rfl⟩ | rfl) ?_
          refine WpO.splitB 47 (by simp -implicitDefEqProofs [H1, g17, g42] <;> rfl) (by rfl) (fun g47 => ?_) (fun g47 => ?_)
          · try (exfalso; revert g47; simp; done)
            all_goals
              have g47' := g47; first | simp only [dT, dF] at g47' | try simp at g47'
              refine WpO.run tabOk 20 (by simp -implicitDefEqProofs [H1, g17, g42, g47] <;> first | exact ⟨rfl, rfl⟩ | rfl) ?_
              refine WpO.nil ?_
              refine WpC.condF (by simp -implicitDefEqProofs [H1, g17, g42, g47] <;> rfl) ?_
              refine WpC.skip ?_
              refine WpC.seq ?_
              refine qR (by simp -implicitDefEqProofs [H1, g17, g42, g47] <;> rfl) ?_
              refine WpC.block ?_
              refine WpC.loopK [3, 69, 70] [71] (l.length) (() : Unit) (fun k _ => [(71, .d (.int .i64 k))]) (fun k _ => []) (fun k _ => True) (by simp -implicitDefEqProofs [H1, g17, g42, g47] <;> rfl) (Gh.cut' [71, 3, 69, 70] 0 (by simp -implicitDefEqProofs [H1, g17, g42, g47]) (by simp -implicitDefEqProofs [H1, g17, g42, g47]) rfl (by simp) (by simp) (by simp)) (by simp) ?_
              rintro k ⟨⟩ hk hi
              simp only [List.cons_append, List.nil_append]
              refine qR (by simp -implicitDefEqProofs [H1, g17, g42, g47] <;> rfl) ?_
              refine WpC.seq (WpC.condD (k < l.length) (by simp -implicitDefEqProofs [H1, g17, g42, g47] <;> omega) (fun hlt => ?_) (fun hge => ?_))
              · refine WpC.skip ?_
                have hkl : k < l.length := by omega
                obtain ⟨p, hp⟩ : ∃ p, l[k] = p := ⟨_, rfl⟩
                have hwk : IntKind.i64.wrap ((k : Int) + 1) = k + 1 := wrapI (by omega) (by omega)
                have v1 : IntKind.i64.wrap (28 * (k : Int)) = 28 * k := wrapI (by omega) (by omega)
                obtain ⟨j1, hj1⟩ : ∃ i, 7 + 28 * k = i := ⟨_, rfl⟩
                obtain ⟨j2, hj2⟩ : ∃ i, 34 + 28 * k = i := ⟨_, rfl⟩
                have v2 : IntKind.i64.wrap (7 + 28 * (k : Int)) = (j1 : Int) := by rw [wrapI (by omega) (by omega)]; omega
                have v3 : IntKind.i64.wrap ((j1 : Int) + 27) = (j2 : Int) := by rw [wrapI (by omega) (by omega)]; omega
                have u1 := (fk k hkl).1
                have u2 := (fk k hkl).2
                rw [hj1, hp] at u1
                rw [hj2] at u2
                have hok := right_at (by simp only [rightB, Bool.and_eq_true, decide_eq_true_eq] at hr; exact hr.1.1.1) hkl
                rw [hp] at hok
                simp only [okB, Bool.and_eq_true, Bool.or_eq_true, decide_eq_true_eq] at hok
                obtain ⟨c, hc⟩ : ∃ c, UInt8.ofNat p.kind.toNat = c := ⟨_, rfl⟩
                rw [hc] at u1
                have hcc : (c.toNat : Int) = p.kind := by rw [← hc, UInt8.toNat_ofNat']; omega
                have H8 := And.intro H1 (And.intro hlt (And.intro hkl (And.intro hp (And.intro hwk (And.intro v1 (And.intro v2 (And.intro v3 (And.intro u1 (And.intro u2 hcc)))))))))
                refine WpC.seq ?_
                refine WpC.block ?_
                refine qR (by simp -implicitDefEqProofs [H8, g17, g42, g47] <;> rfl) ?_
                refine WpC.seq ?_
                refine WpC.drawn tabOk (by kernel_rfl) 0 (by simp) ?_
                refine DrO.run (fz := []) 3 (by simp -implicitDefEqProofs [H8, g17, g42, g47] <;> first | exact ⟨rfl, rfl, rfl, rfl⟩ | rfl) ?_
                refine DrO.run (fz := []) 3 (by simp -implicitDefEqProofs [H8, g17, g42, g47] <;> first | exact ⟨rfl, rfl, rfl, rfl⟩ | rfl) ?_
                refine DrO.run (fz := []) 3 (by simp -implicitDefEqProofs [H8, g17, g42, g47] <;> first | exact ⟨rfl, rfl, rfl, rfl⟩ | rfl) ?_
                refine DrO.splitB 84 (by simp -implicitDefEqProofs [H8, g17, g42, g47] <;> rfl) (by rfl) (fun g84 => ?_) (fun g84 => ?_)
                · try (exfalso; revert g84; simp; done)
                  all_goals
                    have g84' := g84; first | simp only [dT, dF] at g84' | try simp at g84'
                    refine DrO.run (fz := []) 3 (by simp -implicitDefEqProofs [H8, g17, g42, g47, g84] <;> first | exact ⟨rfl, rfl, rfl, rfl⟩ | rfl) ?_
                    refine DrO.run (fz := []) 3 (by simp -implicitDefEqProofs [H8, g17, g42, g47, g84] <;> first | exact ⟨rfl, rfl, rfl, rfl⟩ | rfl) ?_
                    refine DrO.run (fz := []) 2 (by simp -implicitDefEqProofs [H8, g17, g42, g47, g84] <;> first | exact ⟨rfl, rfl, rfl, rfl⟩ | rfl) ?_
                    refine DrO.nil ⟨by kernel_rfl, ?_⟩
                    refine WpC.condF (by simp -implicitDefEqProofs [H8, g17, g42, g47, g84] <;> rfl) ?_
                    refine WpC.skip ?_
                    refine qr (by simp -implicitDefEqProofs [H8, g17, g42, g47, g84] <;> rfl) ?_
                    exact ⟨hlt, (), trivial, Gh.cut' [71, 3, 69, 70] 0 (by simp -implicitDefEqProofs [H8, g17, g42, g47, g84, g17', g42', g47', g84']) (by simp) rfl (by simp) (by simp) (by simp)⟩
                · try (exfalso; revert g84; simp; done)
                  all_goals
                    have g84' := g84; first | simp only [dT, dF] at g84' | try simp at g84'
                    refine DrO.run (fz := []) 3 (by simp -implicitDefEqProofs [H8, g17, g42, g47, g84] <;> first | exact ⟨rfl, rfl, rfl, rfl⟩ | rfl) ?_
                    refine DrO.run (fz := []) 3 (by simp -implicitDefEqProofs [H8, g17, g42, g47, g84] <;> first | exact ⟨rfl, rfl, rfl, rfl⟩ | rfl) ?_
                    refine DrO.run (fz := []) 2 (by simp -implicitDefEqProofs [H8, g17, g42, g47, g84] <;> first | exact ⟨rfl, rfl, rfl, rfl⟩ | rfl) ?_
                    refine DrO.nil ⟨by kernel_rfl, ?_⟩
                    refine WpC.condF (by simp -implicitDefEqProofs [H8, g17, g42, g47, g84] <;> rfl) ?_
                    refine WpC.skip ?_
                    refine qr (by simp -implicitDefEqProofs [H8, g17, g42, g47, g84] <;> rfl) ?_
                    exact ⟨hlt, (), trivial, Gh.cut' [71, 3, 69, 70] 0 (by simp -implicitDefEqProofs [H8, g17, g42, g47, g84, g17', g42', g47', g84']) (by simp) rfl (by simp) (by simp) (by simp)⟩
              refine WpC.exit ?_
              have hkn : k = l.length := by omega
              subst hkn
              refine WpC.seq ?_
              refine WpC.region ?_
              refine WpO.data (by simp) rfl (by simp -implicitDefEqProofs [H1, g17, g42, g47] <;> rfl) (by simp -implicitDefEqProofs [H1, g17, g42, g47] <;> rfl) (by simp -implicitDefEqProofs [H1, g17, g42, g47] <;> rfl) call_8 (by simp) (awake_ok) (by rfl) (by simp -implicitDefEqProofs [H1, g17, g42, g47] <;> rfl) ?_
              refine WpO.run tabOk 1 (by simp -implicitDefEqProofs [H1, g17, g42, g47] <;> first | exact ⟨rfl, rfl⟩ | rfl) ?_
              refine WpO.nil ?_
              refine WpC.ret ?_
              try simp only [blockQ, seqQ]
              refine retD_i (by simp -implicitDefEqProofs [H1, g17, g42, g47] <;> rfl) (by simp -implicitDefEqProofs [H1, g17, g42, g47] <;> rfl) ?_
              simp -implicitDefEqProofs [H1, g17, g42, g47]
          · try (exfalso; revert g47; simp; done)
            all_goals
              have g47' := g47; first | simp only [dT, dF] at g47' | try simp at g47'
              refine WpO.run tabOk 5 (by simp -implicitDefEqProofs [H1, g17, g42, g47] <;> first | exact ⟨rfl, rfl⟩ | rfl) ?_
              refine WpO.splitB 52 (by simp -implicitDefEqProofs [H1, g17, g42, g47] <;> rfl) (by rfl) (fun g52 => ?_) (fun g52 => ?_)
              · try (exfalso; revert g52; simp; done)
                all_goals
                  have g52' := g52; first | simp only [dT, dF] at g52' | try simp at g52'
                  refine WpO.run tabOk 15 (by simp -implicitDefEqProofs [H1, g17, g42, g47, g52] <;> first | exact ⟨rfl, rfl⟩ | rfl) ?_
                  refine WpO.nil ?_
                  refine WpC.condF (by simp -implicitDefEqProofs [H1, g17, g42, g47, g52] <;> rfl) ?_
                  refine WpC.skip ?_
                  refine WpC.seq ?_
                  refine qR (by simp -implicitDefEqProofs [H1, g17, g42, g47, g52] <;> rfl) ?_
                  refine WpC.block ?_
                  refine WpC.loopK [3, 69, 70] [71] (l.length) (() : Unit) (fun k _ => [(71, .d (.int .i64 k))]) (fun k _ => []) (fun k _ => True) (by simp -implicitDefEqProofs [H1, g17, g42, g47, g52] <;> rfl) (Gh.cut' [71, 3, 69, 70] 0 (by simp -implicitDefEqProofs [H1, g17, g42, g47, g52]) (by simp -implicitDefEqProofs [H1, g17, g42, g47, g52]) rfl (by simp) (by simp) (by simp)) (by simp) ?_
                  rintro k ⟨⟩ hk hi
                  simp only [List.cons_append, List.nil_append]
                  refine qR (by simp -implicitDefEqProofs [H1, g17, g42, g47, g52] <;> rfl) ?_
                  refine WpC.seq (WpC.condD (k < l.length) (by simp -implicitDefEqProofs [H1, g17, g42, g47, g52] <;> omega) (fun hlt => ?_) (fun hge => ?_))
                  · refine WpC.skip ?_
                    have hkl : k < l.length := by omega
                    obtain ⟨p, hp⟩ : ∃ p, l[k] = p := ⟨_, rfl⟩
                    have hwk : IntKind.i64.wrap ((k : Int) + 1) = k + 1 := wrapI (by omega) (by omega)
                    have v1 : IntKind.i64.wrap (28 * (k : Int)) = 28 * k := wrapI (by omega) (by omega)
                    obtain ⟨j1, hj1⟩ : ∃ i, 7 + 28 * k = i := ⟨_, rfl⟩
                    obtain ⟨j2, hj2⟩ : ∃ i, 34 + 28 * k = i := ⟨_, rfl⟩
                    have v2 : IntKind.i64.wrap (7 + 28 * (k : Int)) = (j1 : Int) := by rw [wrapI (by omega) (by omega)]; omega
                    have v3 : IntKind.i64.wrap ((j1 : Int) + 27) = (j2 : Int) := by rw [wrapI (by omega) (by omega)]; omega
                    have u1 := (fk k hkl).1
                    have u2 := (fk k hkl).2
                    rw [hj1, hp] at u1
                    rw [hj2] at u2
                    have hok := right_at (by simp only [rightB, Bool.and_eq_true, decide_eq_true_eq] at hr; exact hr.1.1.1) hkl
                    rw [hp] at hok
                    simp only [okB, Bool.and_eq_true, Bool.or_eq_true, decide_eq_true_eq] at hok
                    obtain ⟨c, hc⟩ : ∃ c, UInt8.ofNat p.kind.toNat = c := ⟨_, rfl⟩
                    rw [hc] at u1
                    have hcc : (c.toNat : Int) = p.kind := by rw [← hc, UInt8.toNat_ofNat']; omega
                    have H9 := And.intro H1 (And.intro hlt (And.intro hkl (And.intro hp (And.intro hwk (And.intro v1 (And.intro v2 (And.intro v3 (And.intro u1 (And.intro u2 hcc)))))))))
                    refine WpC.seq ?_
                    refine WpC.block ?_
                    refine qR (by simp -implicitDefEqProofs [H9, g17, g42, g47, g52] <;> rfl) ?_
                    refine WpC.seq ?_
                    refine WpC.drawn tabOk (by kernel_rfl) 0 (by simp) ?_
                    refine DrO.run (fz := []) 3 (by simp -implicitDefEqProofs [H9, g17, g42, g47, g52] <;> first | exact ⟨rfl, rfl, rfl, rfl⟩ | rfl) ?_
                    refine DrO.run (fz := []) 3 (by simp -implicitDefEqProofs [H9, g17, g42, g47, g52] <;> first | exact ⟨rfl, rfl, rfl, rfl⟩ | rfl) ?_
                    refine DrO.run (fz := []) 3 (by simp -implicitDefEqProofs [H9, g17, g42, g47, g52] <;> first | exact ⟨rfl, rfl, rfl, rfl⟩ | rfl) ?_
                    refine DrO.splitB 84 (by simp -implicitDefEqProofs [H9, g17, g42, g47, g52] <;> rfl) (by rfl) (fun g84 => ?_) (fun g84 => ?_)
                    · try (exfalso; revert g84; simp; done)
                      all_goals
                        have g84' := g84; first | simp only [dT, dF] at g84' | try simp at g84'
                        refine DrO.run (fz := []) 3 (by simp -implicitDefEqProofs [H9, g17, g42, g47, g52, g84] <;> first | exact ⟨rfl, rfl, rfl, rfl⟩ | rfl) ?_
                        refine DrO.run (fz := []) 3 (by simp -implicitDefEqProofs [H9, g17, g42, g47, g52, g84] <;> first | exact ⟨rfl, rfl, rfl, rfl⟩ | rfl) ?_
                        refine DrO.run (fz := []) 2 (by simp -implicitDefEqProofs [H9, g17, g42, g47, g52, g84] <;> first | exact ⟨rfl, rfl, rfl, rfl⟩ | rfl) ?_
                        refine DrO.nil ⟨by kernel_rfl, ?_⟩
                        refine WpC.condF (by simp -implicitDefEqProofs [H9, g17, g42, g47, g52, g84] <;> rfl) ?_
                        refine WpC.skip ?_
                        refine qr (by simp -implicitDefEqProofs [H9, g17, g42, g47, g52, g84] <;> rfl) ?_
                        exact ⟨hlt, (), trivial, Gh.cut' [71, 3, 69, 70] 0 (by simp -implicitDefEqProofs [H9, g17, g42, g47, g52, g84, g17', g42', g47', g52', g84']) (by simp) rfl (by simp) (by simp) (by simp)⟩
                    · try (exfalso; revert g84; simp; done)
                      all_goals
                        have g84' := g84; first | simp only [dT, dF] at g84' | try simp at g84'
                        refine DrO.run (fz := []) 3 (by simp -implicitDefEqProofs [H9, g17, g42, g47, g52, g84] <;> first | exact ⟨rfl, rfl, rfl, rfl⟩ | rfl) ?_
                        refine DrO.run (fz := []) 3 (by simp -implicitDefEqProofs [H9, g17, g42, g47, g52, g84] <;> first | exact ⟨rfl, rfl, rfl, rfl⟩ | rfl) ?_
                        refine DrO.run (fz := []) 2 (by simp -implicitDefEqProofs [H9, g17, g42, g47, g52, g84] <;> first | exact ⟨rfl, rfl, rfl, rfl⟩ | rfl) ?_
                        refine DrO.nil ⟨by kernel_rfl, ?_⟩
                        refine WpC.condF (by simp -implicitDefEqProofs [H9, g17, g42, g47, g52, g84] <;> rfl) ?_
                        refine WpC.skip ?_
                        refine qr (by simp -implicitDefEqProofs [H9, g17, g42, g47, g52, g84] <;> rfl) ?_
                        exact ⟨hlt, (), trivial, Gh.cut' [71, 3, 69, 70] 0 (by simp -implicitDefEqProofs [H9, g17, g42, g47, g52, g84, g17', g42', g47', g52', g84']) (by simp) rfl (by simp) (by simp) (by simp)⟩
                  refine WpC.exit ?_
                  have hkn : k = l.length := by omega
                  subst hkn
                  refine WpC.seq ?_
                  refine WpC.region ?_
                  refine WpO.data (by simp) rfl (by simp -implicitDefEqProofs [H1, g17, g42, g47, g52] <;> rfl) (by simp -implicitDefEqProofs [H1, g17, g42, g47, g52] <;> rfl) (by simp -implicitDefEqProofs [H1, g17, g42, g47, g52] <;> rfl) call_8 (by simp) (awake_ok) (by rfl) (by simp -implicitDefEqProofs [H1, g17, g42, g47, g52] <;> rfl) ?_
                  refine WpO.run tabOk 1 (by simp -implicitDefEqProofs [H1, g17, g42, g47, g52] <;> first | exact ⟨rfl, rfl⟩ | rfl) ?_
                  refine WpO.nil ?_
                  refine WpC.ret ?_
                  try simp only [blockQ, seqQ]
                  refine retD_i (by simp -implicitDefEqProofs [H1, g17, g42, g47, g52] <;> rfl) (by simp -implicitDefEqProofs [H1, g17, g42, g47, g52] <;> rfl) ?_
                  simp -implicitDefEqProofs [H1, g17, g42, g47, g52]
              · try (exfalso; revert g52; simp; done)
                all_goals
                  have g52' := g52; first | simp only [dT, dF] at g52' | try simp at g52'
                  refine WpO.run tabOk 8 (by simp -implicitDefEqProofs [H1, g17, g42, g47, g52] <;> first | exact ⟨rfl, rfl⟩ | rfl) ?_
                  refine WpO.splitB 60 (by simp -implicitDefEqProofs [H1, g17, g42, g47, g52] <;> rfl) (by rfl) (fun g60 => ?_) (fun g60 => ?_)
                  · try (exfalso; revert g60; simp; done)
                    all_goals
                      have g60' := g60; first | simp only [dT, dF] at g60' | try simp at g60'
                      refine WpO.run tabOk 7 (by simp -implicitDefEqProofs [H1, g17, g42, g47, g52, g60] <;> first | exact ⟨rfl, rfl⟩ | rfl) ?_
                      refine WpO.nil ?_
                      refine WpC.condF (by simp -implicitDefEqProofs [H1, g17, g42, g47, g52, g60] <;> rfl) ?_
                      refine WpC.skip ?_
                      refine WpC.seq ?_
                      refine qR (by simp -implicitDefEqProofs [H1, g17, g42, g47, g52, g60] <;> rfl) ?_
                      refine WpC.block ?_
                      refine WpC.loopK [3, 69, 70] [71] (l.length) (() : Unit) (fun k _ => [(71, .d (.int .i64 k))]) (fun k _ => []) (fun k _ => True) (by simp -implicitDefEqProofs [H1, g17, g42, g47, g52, g60] <;> rfl) (Gh.cut' [71, 3, 69, 70] 0 (by simp -implicitDefEqProofs [H1, g17, g42, g47, g52, g60]) (by simp -implicitDefEqProofs [H1, g17, g42, g47, g52, g60]) rfl (by simp) (by simp) (by simp)) (by simp) ?_
                      rintro k ⟨⟩ hk hi
                      simp only [List.cons_append, List.nil_append]
                      refine qR (by simp -implicitDefEqProofs [H1, g17, g42, g47, g52, g60] <;> rfl) ?_
                      refine WpC.seq (WpC.condD (k < l.length) (by simp -implicitDefEqProofs [H1, g17, g42, g47, g52, g60] <;> omega) (fun hlt => ?_) (fun hge => ?_))
                      · refine WpC.skip ?_
                        have hkl : k < l.length := by omega
                        obtain ⟨p, hp⟩ : ∃ p, l[k] = p := ⟨_, rfl⟩
                        have hwk : IntKind.i64.wrap ((k : Int) + 1) = k + 1 := wrapI (by omega) (by omega)
                        have v1 : IntKind.i64.wrap (28 * (k : Int)) = 28 * k := wrapI (by omega) (by omega)
                        obtain ⟨j1, hj1⟩ : ∃ i, 7 + 28 * k = i := ⟨_, rfl⟩
                        obtain ⟨j2, hj2⟩ : ∃ i, 34 + 28 * k = i := ⟨_, rfl⟩
                        have v2 : IntKind.i64.wrap (7 + 28 * (k : Int)) = (j1 : Int) := by rw [wrapI (by omega) (by omega)]; omega
                        have v3 : IntKind.i64.wrap ((j1 : Int) + 27) = (j2 : Int) := by rw [wrapI (by omega) (by omega)]; omega
                        have u1 := (fk k hkl).1
                        have u2 := (fk k hkl).2
                        rw [hj1, hp] at u1
                        rw [hj2] at u2
                        have hok := right_at (by simp only [rightB, Bool.and_eq_true, decide_eq_true_eq] at hr; exact hr.1.1.1) hkl
                        rw [hp] at hok
                        simp only [okB, Bool.and_eq_true, Bool.or_eq_true, decide_eq_true_eq] at hok
                        obtain ⟨c, hc⟩ : ∃ c, UInt8.ofNat p.kind.toNat = c := ⟨_, rfl⟩
                        rw [hc] at u1
                        have hcc : (c.toNat : Int) = p.kind := by rw [← hc, UInt8.toNat_ofNat']; omega
                        have H10 := And.intro H1 (And.intro hlt (And.intro hkl (And.intro hp (And.intro hwk (And.intro v1 (And.intro v2 (And.intro v3 (And.intro u1 (And.intro u2 hcc)))))))))
                        refine WpC.seq ?_
                        refine WpC.block ?_
                        refine qR (by simp -implicitDefEqProofs [H10, g17, g42, g47, g52, g60] <;> rfl) ?_
                        refine WpC.seq ?_
                        refine WpC.drawn tabOk (by kernel_rfl) 0 (by simp) ?_
                        refine DrO.run (fz := []) 3 (by simp -implicitDefEqProofs [H10, g17, g42, g47, g52, g60] <;> first | exact ⟨rfl, rfl, rfl, rfl⟩ | rfl) ?_
                        refine DrO.run (fz := []) 3 (by simp -implicitDefEqProofs [H10, g17, g42, g47, g52, g60] <;> first | exact ⟨rfl, rfl, rfl, rfl⟩ | rfl) ?_
                        refine DrO.run (fz := []) 3 (by simp -implicitDefEqProofs [H10, g17, g42, g47, g52, g60] <;> first | exact ⟨rfl, rfl, rfl, rfl⟩ | rfl) ?_
                        refine DrO.splitB 84 (by simp -implicitDefEqProofs [H10, g17, g42, g47, g52, g60] <;> rfl) (by rfl) (fun g84 => ?_) (fun g84 => ?_)
                        · try (exfalso; revert g84; simp; done)
                          all_goals
                            have g84' := g84; first | simp only [dT, dF] at g84' | try simp at g84'
                            refine DrO.run (fz := []) 3 (by simp -implicitDefEqProofs [H10, g17, g42, g47, g52, g60, g84] <;> first | exact ⟨rfl, rfl, rfl, rfl⟩ | rfl) ?_
                            refine DrO.run (fz := []) 3 (by simp -implicitDefEqProofs [H10, g17, g42, g47, g52, g60, g84] <;> first | exact ⟨rfl, rfl, rfl, rfl⟩ | rfl) ?_
                            refine DrO.run (fz := []) 2 (by simp -implicitDefEqProofs [H10, g17, g42, g47, g52, g60, g84] <;> first | exact ⟨rfl, rfl, rfl, rfl⟩ | rfl) ?_
                            refine DrO.nil ⟨by kernel_rfl, ?_⟩
                            refine WpC.condF (by simp -implicitDefEqProofs [H10, g17, g42, g47, g52, g60, g84] <;> rfl) ?_
                            refine WpC.skip ?_
                            refine qr (by simp -implicitDefEqProofs [H10, g17, g42, g47, g52, g60, g84] <;> rfl) ?_
                            exact ⟨hlt, (), trivial, Gh.cut' [71, 3, 69, 70] 0 (by simp -implicitDefEqProofs [H10, g17, g42, g47, g52, g60, g84, g17', g42', g47', g52', g60', g84']) (by simp) rfl (by simp) (by simp) (by simp)⟩
                        · try (exfalso; revert g84; simp; done)
                          all_goals
                            have g84' := g84; first | simp only [dT, dF] at g84' | try simp at g84'
                            refine DrO.run (fz := []) 3 (by simp -implicitDefEqProofs [H10, g17, g42, g47, g52, g60, g84] <;> first | exact ⟨rfl, rfl, rfl, rfl⟩ | rfl) ?_
                            refine DrO.run (fz := []) 3 (by simp -implicitDefEqProofs [H10, g17, g42, g47, g52, g60, g84] <;> first | exact ⟨rfl, rfl, rfl, rfl⟩ | rfl) ?_
                            refine DrO.run (fz := []) 2 (by simp -implicitDefEqProofs [H10, g17, g42, g47, g52, g60, g84] <;> first | exact ⟨rfl, rfl, rfl, rfl⟩ | rfl) ?_
                            refine DrO.nil ⟨by kernel_rfl, ?_⟩
                            refine WpC.condF (by simp -implicitDefEqProofs [H10, g17, g42, g47, g52, g60, g84] <;> rfl) ?_
                            refine WpC.skip ?_
                            refine qr (by simp -implicitDefEqProofs [H10, g17, g42, g47, g52, g60, g84] <;> rfl) ?_
                            exact ⟨hlt, (), trivial, Gh.cut' [71, 3, 69, 70] 0 (by simp -implicitDefEqProofs [H10, g17, g42, g47, g52, g60, g84, g17', g42', g47', g52', g60', g84']) (by simp) rfl (by simp) (by simp) (by simp)⟩
                      refine WpC.exit ?_
                      have hkn : k = l.length := by omega
                      subst hkn
                      refine WpC.seq ?_
                      refine WpC.region ?_
                      refine WpO.data (by simp) rfl (by simp -implicitDefEqProofs [H1, g17, g42, g47, g52, g60] <;> rfl) (by simp -implicitDefEqProofs [H1, g17, g42, g47, g52, g60] <;> rfl) (by simp -implicitDefEqProofs [H1, g17, g42, g47, g52, g60] <;> rfl) call_8 (by simp) (awake_ok) (by rfl) (by simp -implicitDefEqProofs [H1, g17, g42, g47, g52, g60] <;> rfl) ?_
                      refine WpO.run tabOk 1 (by simp -implicitDefEqProofs [H1, g17, g42, g47, g52, g60] <;> first | exact ⟨rfl, rfl⟩ | rfl) ?_
                      refine WpO.nil ?_
                      refine WpC.ret ?_
                      try simp only [blockQ, seqQ]
                      refine retD_i (by simp -implicitDefEqProofs [H1, g17, g42, g47, g52, g60] <;> rfl) (by simp -implicitDefEqProofs [H1, g17, g42, g47, g52, g60] <;> rfl) ?_
                      simp -implicitDefEqProofs [H1, g17, g42, g47, g52, g60]
                  · try (exfalso; revert g60; simp; done)
                    all_goals
                      have g60' := g60; first | simp only [dT, dF] at g60' | try simp at g60'
                      refine WpO.run tabOk 7 (by simp -implicitDefEqProofs [H1, g17, g42, g47, g52, g60] <;> first | exact ⟨rfl, rfl⟩ | rfl) ?_
                      refine WpO.nil ?_
                      refine WpC.condF (by simp -implicitDefEqProofs [H1, g17, g42, g47, g52, g60] <;> rfl) ?_
                      refine WpC.skip ?_
                      refine WpC.seq ?_
                      refine qR (by simp -implicitDefEqProofs [H1, g17, g42, g47, g52, g60] <;> rfl) ?_
                      refine WpC.block ?_
                      refine WpC.loopK [3, 69, 70] [71] (l.length) (() : Unit) (fun k _ => [(71, .d (.int .i64 k))]) (fun k _ => []) (fun k _ => True) (by simp -implicitDefEqProofs [H1, g17, g42, g47, g52, g60] <;> rfl) (Gh.cut' [71, 3, 69, 70] 0 (by simp -implicitDefEqProofs [H1, g17, g42, g47, g52, g60]) (by simp -implicitDefEqProofs [H1, g17, g42, g47, g52, g60]) rfl (by simp) (by simp) (by simp)) (by simp) ?_
                      rintro k ⟨⟩ hk hi
                      simp only [List.cons_append, List.nil_append]
                      refine qR (by simp -implicitDefEqProofs [H1, g17, g42, g47, g52, g60] <;> rfl) ?_
                      refine WpC.seq (WpC.condD (k < l.length) (by simp -implicitDefEqProofs [H1, g17, g42, g47, g52, g60] <;> omega) (fun hlt => ?_) (fun hge => ?_))
                      · refine WpC.skip ?_
                        have hkl : k < l.length := by omega
                        obtain ⟨p, hp⟩ : ∃ p, l[k] = p := ⟨_, rfl⟩
                        have hwk : IntKind.i64.wrap ((k : Int) + 1) = k + 1 := wrapI (by omega) (by omega)
                        have v1 : IntKind.i64.wrap (28 * (k : Int)) = 28 * k := wrapI (by omega) (by omega)
                        obtain ⟨j1, hj1⟩ : ∃ i, 7 + 28 * k = i := ⟨_, rfl⟩
                        obtain ⟨j2, hj2⟩ : ∃ i, 34 + 28 * k = i := ⟨_, rfl⟩
                        have v2 : IntKind.i64.wrap (7 + 28 * (k : Int)) = (j1 : Int) := by rw [wrapI (by omega) (by omega)]; omega
                        have v3 : IntKind.i64.wrap ((j1 : Int) + 27) = (j2 : Int) := by rw [wrapI (by omega) (by omega)]; omega
                        have u1 := (fk k hkl).1
                        have u2 := (fk k hkl).2
                        rw [hj1, hp] at u1
                        rw [hj2] at u2
                        have hok := right_at (by simp only [rightB, Bool.and_eq_true, decide_eq_true_eq] at hr; exact hr.1.1.1) hkl
                        rw [hp] at hok
                        simp only [okB, Bool.and_eq_true, Bool.or_eq_true, decide_eq_true_eq] at hok
                        obtain ⟨c, hc⟩ : ∃ c, UInt8.ofNat p.kind.toNat = c := ⟨_, rfl⟩
                        rw [hc] at u1
                        have hcc : (c.toNat : Int) = p.kind := by rw [← hc, UInt8.toNat_ofNat']; omega
                        have H11 := And.intro H1 (And.intro hlt (And.intro hkl (And.intro hp (And.intro hwk (And.intro v1 (And.intro v2 (And.intro v3 (And.intro u1 (And.intro u2 hcc)))))))))
                        refine WpC.seq ?_
                        refine WpC.block ?_
                        refine qR (by simp -implicitDefEqProofs [H11, g17, g42, g47, g52, g60] <;> rfl) ?_
                        refine WpC.seq ?_
                        refine WpC.drawn tabOk (by kernel_rfl) 0 (by simp) ?_
                        refine DrO.run (fz := []) 3 (by simp -implicitDefEqProofs [H11, g17, g42, g47, g52, g60] <;> first | exact ⟨rfl, rfl, rfl, rfl⟩ | rfl) ?_
                        refine DrO.run (fz := []) 3 (by simp -implicitDefEqProofs [H11, g17, g42, g47, g52, g60] <;> first | exact ⟨rfl, rfl, rfl, rfl⟩ | rfl) ?_
                        refine DrO.run (fz := []) 3 (by simp -implicitDefEqProofs [H11, g17, g42, g47, g52, g60] <;> first | exact ⟨rfl, rfl, rfl, rfl⟩ | rfl) ?_
                        refine DrO.splitB 84 (by simp -implicitDefEqProofs [H11, g17, g42, g47, g52, g60] <;> rfl) (by rfl) (fun g84 => ?_) (fun g84 => ?_)
                        · try (exfalso; revert g84; simp; done)
                          all_goals
                            have g84' := g84; first | simp only [dT, dF] at g84' | try simp at g84'
                            refine DrO.run (fz := []) 3 (by simp -implicitDefEqProofs [H11, g17, g42, g47, g52, g60, g84] <;> first | exact ⟨rfl, rfl, rfl, rfl⟩ | rfl) ?_
                            refine DrO.run (fz := []) 3 (by simp -implicitDefEqProofs [H11, g17, g42, g47, g52, g60, g84] <;> first | exact ⟨rfl, rfl, rfl, rfl⟩ | rfl) ?_
                            refine DrO.run (fz := []) 2 (by simp -implicitDefEqProofs [H11, g17, g42, g47, g52, g60, g84] <;> first | exact ⟨rfl, rfl, rfl, rfl⟩ | rfl) ?_
                            refine DrO.nil ⟨by kernel_rfl, ?_⟩
                            refine WpC.condF (by simp -implicitDefEqProofs [H11, g17, g42, g47, g52, g60, g84] <;> rfl) ?_
                            refine WpC.skip ?_
                            refine qr (by simp -implicitDefEqProofs [H11, g17, g42, g47, g52, g60, g84] <;> rfl) ?_
                            exact ⟨hlt, (), trivial, Gh.cut' [71, 3, 69, 70] 0 (by simp -implicitDefEqProofs [H11, g17, g42, g47, g52, g60, g84, g17', g42', g47', g52', g60', g84']) (by simp) rfl (by simp) (by simp) (by simp)⟩
                        · try (exfalso; revert g84; simp; done)
                          all_goals
                            have g84' := g84; first | simp only [dT, dF] at g84' | try simp at g84'
                            refine DrO.run (fz := []) 3 (by simp -implicitDefEqProofs [H11, g17, g42, g47, g52, g60, g84] <;> first | exact ⟨rfl, rfl, rfl, rfl⟩ | rfl) ?_
                            refine DrO.run (fz := []) 3 (by simp -implicitDefEqProofs [H11, g17, g42, g47, g52, g60, g84] <;> first | exact ⟨rfl, rfl, rfl, rfl⟩ | rfl) ?_
                            refine DrO.run (fz := []) 2 (by simp -implicitDefEqProofs [H11, g17, g42, g47, g52, g60, g84] <;> first | exact ⟨rfl, rfl, rfl, rfl⟩ | rfl) ?_
                            refine DrO.nil ⟨by kernel_rfl, ?_⟩
                            refine WpC.condF (by simp -implicitDefEqProofs [H11, g17, g42, g47, g52, g60, g84] <;> rfl) ?_
                            refine WpC.skip ?_
                            refine qr (by simp -implicitDefEqProofs [H11, g17, g42, g47, g52, g60, g84] <;> rfl) ?_
                            exact ⟨hlt, (), trivial, Gh.cut' [71, 3, 69, 70] 0 (by simp -implicitDefEqProofs [H11, g17, g42, g47, g52, g60, g84, g17', g42', g47', g52', g60', g84']) (by simp) rfl (by simp) (by simp) (by simp)⟩
                      refine WpC.exit ?_
                      have hkn : k = l.length := by omega
                      subst hkn
                      refine WpC.seq ?_
                      refine WpC.region ?_
                      refine WpO.data (by simp) rfl (by simp -implicitDefEqProofs [H1, g17, g42, g47, g52, g60] <;> rfl) (by simp -implicitDefEqProofs [H1, g17, g42, g47, g52, g60] <;> rfl) (by simp -implicitDefEqProofs [H1, g17, g42, g47, g52, g60] <;> rfl) call_8 (by simp) (awake_ok) (by rfl) (by simp -implicitDefEqProofs [H1, g17, g42, g47, g52, g60] <;> rfl) ?_
                      refine WpO.run tabOk 1 (by simp -implicitDefEqProofs [H1, g17, g42, g47, g52, g60] <;> first | exact ⟨rfl, rfl⟩ | rfl) ?_
                      refine WpO.nil ?_
                      refine WpC.ret ?_
                      try simp only [blockQ, seqQ]
                      refine retD_i (by simp -implicitDefEqProofs [H1, g17, g42, g47, g52, g60] <;> rfl) (by simp -implicitDefEqProofs [H1, g17, g42, g47, g52, g60] <;> rfl) ?_
                      simp -implicitDefEqProofs [H1, g17, g42, g47, g52, g60]
theorem bankLines_walk (per : Int) (l : List Pm) (hl : l.length ≤ 9223372036854775807) : Gives Tryd.prog 6 [.d (encF per l)] (.d (.bool true)) := by
  by_cases h : l.length ≤ 100
  · cases hr : rightB per l with
    | true => exact lines_yes per l h hr
    | false => exact lines_no per l h hr
  · exact lines_long per l (by omega) hl
end Go.Proofs.YtjlamhilnkadcaaDoor.Pay
