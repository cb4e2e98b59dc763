/- Law BankWrites. No statement of the seed is proved here but that one's walk. -/
import Derived.Test.YtjlamhilnkadcaaDoorBkN
namespace Go.Proofs.YtjlamhilnkadcaaDoor.Pay
open Go Go.RowKit
set_option linter.unusedVariables false
set_option linter.unusedSimpArgs false

theorem textL_len {per : Int} {l : List Pm} (hr : rightB per l = true) : (textL per l).length = 33 + 28 * l.length := by
  simp only [rightB, Bool.and_eq_true, decide_eq_true_eq] at hr
  obtain ⟨⟨⟨hal, hp0⟩, hp1⟩, hl⟩ := hr
  have hsu := sumA_le hal l.length (Nat.le_refl _)
  have hb := bodyL_len hal (wideL_len (n := per) (d := 5) (k := 4) rfl (by omega) (by omega)) l.length (Nat.le_refl _)
  rw [List.take_length] at hsu hb
  have h4 := wideL_len (n := l.length) (d := 4) (k := 3) rfl (by omega) (by omega)
  have h20 := wideL_len (n := sumA l) (d := 20) (k := 19) rfl (by omega) (by omega)
  simp only [textL, List.length_append, List.length_cons, h4, h20, hb, List.length_nil]
  omega
theorem writes_long (per : Int) (l : List Pm) (h : 100 < l.length) : Gives Tryd.prog 3 [.d (encF per l)] (.d (.bool true)) := by
  have h2 : (100 : Int) < l.length := by omega
  refine Gives.enter tabOk Tryd.func3 rfl (by show 1 ≤ 64; decide) ?_
  simp only [Tryd.f3]
  refine qR (by simp -implicitDefEqProofs [h2] <;> rfl) ?_
  refine WpC.seq ?_
  refine qR (by simp -implicitDefEqProofs [h2] <;> rfl) ?_
  refine WpC.condT (by simp -implicitDefEqProofs [h2] <;> rfl) ?_
  refine WpC.seq ?_
  refine WpC.region ?_
  refine WpO.data (by simp) rfl (by simp -implicitDefEqProofs [h2] <;> rfl) (by simp -implicitDefEqProofs [h2] <;> rfl) (by simp -implicitDefEqProofs [h2] <;> rfl) call_8 (by simp) (awake_ok) (by rfl) (by simp -implicitDefEqProofs [h2] <;> rfl) ?_
  refine WpO.run tabOk 1 (by simp -implicitDefEqProofs [h2] <;> first | exact ⟨rfl, rfl⟩ | rfl) ?_
  refine WpO.nil ?_
  refine WpC.ret ?_
  try simp only [blockQ, seqQ]
  refine retD_i (by simp -implicitDefEqProofs [h2] <;> rfl) (by simp -implicitDefEqProofs [h2] <;> rfl) ?_
  simp -implicitDefEqProofs [h2]
theorem writes_no (per : Int) (l : List Pm) (h : l.length ≤ 100) (hr : rightB per l = false) : Gives Tryd.prog 3 [.d (encF per l)] (.d (.bool true)) := by
  have h2 : ¬ (100 : Int) < l.length := by omega
  have hw := writeA_ok per l (by omega)
  have hs : wrS per l = [] := by rw [wrS, if_neg (by simp [hr])]
  have he : wrE per l = 1 := by rw [wrE, if_neg (by simp [hr])]
  rw [hs, he] at hw
  have hf := ref_ok per l (by omega)
  have hg := right22_ok per l (by omega)
  have hb := right_ok per l (by omega)
  rw [hr] at hg hb
  refine Gives.enter tabOk Tryd.func3 rfl (by show 1 ≤ 64; decide) ?_
  simp only [Tryd.f3]
  refine qR (by simp -implicitDefEqProofs [h2] <;> rfl) ?_
  refine WpC.seq ?_
  refine qR (by simp -implicitDefEqProofs [h2] <;> rfl) ?_
  refine WpC.condF (by simp -implicitDefEqProofs [h2] <;> rfl) ?_
  refine WpC.skip ?_
  refine WpC.seq ?_
  refine WpC.region ?_
  refine WpO.run tabOk 1 (by simp -implicitDefEqProofs [h2] <;> first | exact ⟨rfl, rfl⟩ | rfl) ?_
  refine WpO.data (by simp) rfl (by simp -implicitDefEqProofs [h2] <;> rfl) (by simp -implicitDefEqProofs [h2] <;> rfl) (by simp -implicitDefEqProofs [h2] <;> rfl) call_9 (by simp) (hw) (by rfl) (by simp -implicitDefEqProofs [h2] <;> rfl) ?_
  refine WpO.run tabOk 5 (by simp -implicitDefEqProofs [h2] <;> first | exact ⟨rfl, rfl⟩ | rfl) ?_
  refine WpO.nil ?_
  refine WpC.seq ?_
  refine WpC.region ?_
  refine WpO.run tabOk 1 (by simp -implicitDefEqProofs [h2] <;> first | exact ⟨rfl, rfl⟩ | rfl) ?_
  refine WpO.data (by simp) rfl (by simp -implicitDefEqProofs [h2] <;> rfl) (by simp -implicitDefEqProofs [h2] <;> rfl) (by simp -implicitDefEqProofs [h2] <;> rfl) call_11 (by simp) (hf) (by rfl) (by simp -implicitDefEqProofs [h2] <;> rfl) ?_
  refine WpO.data (by simp) rfl (by simp -implicitDefEqProofs [h2] <;> rfl) (by simp -implicitDefEqProofs [h2] <;> rfl) (by simp -implicitDefEqProofs [h2] <;> rfl) call_10 (by simp) (hg) (by rfl) (by simp -implicitDefEqProofs [h2] <;> rfl) ?_
  refine WpO.run tabOk 1 (by simp -implicitDefEqProofs [h2] <;> first | exact ⟨rfl, rfl⟩ | rfl) ?_
  refine WpO.nil ?_
  refine WpC.seq ?_
  refine WpC.seq ?_
  refine WpC.region ?_
  refine WpO.run tabOk 1 (by simp -implicitDefEqProofs [h2] <;> first | exact ⟨rfl, rfl⟩ | rfl) ?_
  refine WpO.data (by simp) rfl (by simp -implicitDefEqProofs [h2] <;> rfl) (by simp -implicitDefEqProofs [h2] <;> rfl) (by simp -implicitDefEqProofs [h2] <;> rfl) call_12 (by simp) (hb) (by rfl) (by simp -implicitDefEqProofs [h2] <;> rfl) ?_
  refine WpO.run tabOk 2 (by simp -implicitDefEqProofs [h2] <;> first | exact ⟨rfl, rfl⟩ | rfl) ?_
  refine WpO.nil ?_
  refine WpC.condF (by simp -implicitDefEqProofs [h2] <;> rfl) ?_
  refine WpC.skip ?_
  refine WpC.seq ?_
  refine qR (by simp -implicitDefEqProofs [h2] <;> rfl) ?_
  refine WpC.condT (by simp -implicitDefEqProofs [h2] <;> rfl) ?_
  refine WpC.seq ?_
  refine WpC.region ?_
  refine WpO.run tabOk 3 (by simp -implicitDefEqProofs [h2] <;> first | exact ⟨rfl, rfl⟩ | rfl) ?_
  refine WpO.splitB 29 (by simp -implicitDefEqProofs [h2] <;> rfl) (by rfl) (fun g29 => ?_) (fun g29 => ?_)
  · try (exfalso; revert g29; simp; done)
    all_goals
      have g29' := g29; first | simp only [dT, dF] at g29' | try simp at g29'
      refine WpO.run tabOk 4 (by simp -implicitDefEqProofs [h2, g29] <;> first | exact ⟨rfl, rfl⟩ | rfl) ?_
      refine WpO.splitB 33 (by simp -implicitDefEqProofs [h2, g29] <;> rfl) (by rfl) (fun g33 => ?_) (fun g33 => ?_)
      · try (exfalso; revert g33; simp; done)
        all_goals
          have g33' := g33; first | simp only [dT, dF] at g33' | try simp at g33'
          refine WpO.data (by simp) rfl (by simp -implicitDefEqProofs [h2, g29, g33] <;> rfl) (by simp -implicitDefEqProofs [h2, g29, g33] <;> rfl) (by simp -implicitDefEqProofs [h2, g29, g33] <;> rfl) call_8 (by simp) (awake_ok) (by rfl) (by simp -implicitDefEqProofs [h2, g29, g33] <;> rfl) ?_
          refine WpO.run tabOk 2 (by simp -implicitDefEqProofs [h2, g29, g33] <;> first | exact ⟨rfl, rfl⟩ | rfl) ?_
          refine WpO.nil ?_
          refine WpC.ret ?_
          try simp only [blockQ, seqQ]
          refine retD_i (by simp -implicitDefEqProofs [h2, g29, g33] <;> rfl) (by simp -implicitDefEqProofs [h2, g29, g33] <;> rfl) ?_
          simp -implicitDefEqProofs [h2, g29, g33]
      · try (exfalso; revert g33; simp; done)
        all_goals
          have g33' := g33; first | simp only [dT, dF] at g33' | try simp at g33'
          refine WpO.run tabOk 3 (by simp -implicitDefEqProofs [h2, g29, g33] <;> first | exact ⟨rfl, rfl⟩ | rfl) ?_
          refine WpO.nil ?_
          refine WpC.ret ?_
          try simp only [blockQ, seqQ]
          refine retD_i (by simp -implicitDefEqProofs [h2, g29, g33] <;> rfl) (by simp -implicitDefEqProofs [h2, g29, g33] <;> rfl) ?_
          simp -implicitDefEqProofs [h2, g29, g33]
  · try (exfalso; revert g29; simp; done)
    all_goals
      have g29' := g29; first | simp only [dT, dF] at g29' | try simp at g29'
      refine WpO.run tabOk 7 (by simp -implicitDefEqProofs [h2, g29] <;> first | exact ⟨rfl, rfl⟩ | rfl) ?_
      refine WpO.nil ?_
      refine WpC.ret ?_
      try simp only [blockQ, seqQ]
      refine retD_i (by simp -implicitDefEqProofs [h2, g29] <;> rfl) (by simp -implicitDefEqProofs [h2, g29] <;> rfl) ?_
      simp -implicitDefEqProofs [h2, g29]
theorem writes_yes (per : Int) (l : List Pm) (h : l.length ≤ 100) (hr : rightB per l = true) : Gives Tryd.prog 3 [.d (encF per l)] (.d (.bool true)) := by
  have h2 : ¬ (100 : Int) < l.length := by omega
  have hw := writeA_ok per l (by omega)
  have hs : wrS per l = textL per l := by rw [wrS, if_pos hr]
  have he : wrE per l = 0 := by rw [wrE, if_pos hr]
  rw [hs, he] at hw
  have hrd := readA_ok (textL per l) (by rw [textL_len hr]; omega)
  rw [read_text hr] at hrd
  simp only [encR] at hrd
  have hf := ref_ok per l (by omega)
  have hg := right22_ok per l (by omega)
  have hb := right_ok per l (by omega)
  rw [hr] at hg hb
  have ht := text22_ok per l hr
  have hsm := same_ok per per l l (by omega) (by omega)
  have hss : sameB per l per l = true := by simp [sameB]
  rw [hss] at hsm
  obtain ⟨T, hT⟩ : ∃ T, textL per l = T := ⟨_, rfl⟩
  rw [hT] at hw hrd ht
  refine Gives.enter tabOk Tryd.func3 rfl (by show 1 ≤ 64; decide) ?_
  simp only [Tryd.f3]
  refine qR (by simp -implicitDefEqProofs [h2] <;> rfl) ?_
  refine WpC.seq ?_
  refine qR (by simp -implicitDefEqProofs [h2] <;> rfl) ?_
  refine WpC.condF (by simp -implicitDefEqProofs [h2] <;> rfl) ?_
  refine WpC.skip ?_
  refine WpC.seq ?_
  refine WpC.region ?_
  refine WpO.run tabOk 1 (by simp -implicitDefEqProofs [h2] <;> first | exact ⟨rfl, rfl⟩ | rfl) ?_
  refine WpO.data (by simp) rfl (by simp -implicitDefEqProofs [h2] <;> rfl) (by simp -implicitDefEqProofs [h2] <;> rfl) (by simp -implicitDefEqProofs [h2] <;> rfl) call_9 (by simp) (hw) (by rfl) (by simp -implicitDefEqProofs [h2] <;> rfl) ?_
  refine WpO.run tabOk 5 (by simp -implicitDefEqProofs [h2] <;> first | exact ⟨rfl, rfl⟩ | rfl) ?_
  refine WpO.nil ?_
  refine WpC.seq ?_
  refine WpC.region ?_
  refine WpO.run tabOk 1 (by simp -implicitDefEqProofs [h2] <;> first | exact ⟨rfl, rfl⟩ | rfl) ?_
  refine WpO.data (by simp) rfl (by simp -implicitDefEqProofs [h2] <;> rfl) (by simp -implicitDefEqProofs [h2] <;> rfl) (by simp -implicitDefEqProofs [h2] <;> rfl) call_11 (by simp) (hf) (by rfl) (by simp -implicitDefEqProofs [h2] <;> rfl) ?_
  refine WpO.data (by simp) rfl (by simp -implicitDefEqProofs [h2] <;> rfl) (by simp -implicitDefEqProofs [h2] <;> rfl) (by simp -implicitDefEqProofs [h2] <;> rfl) call_10 (by simp) (hg) (by rfl) (by simp -implicitDefEqProofs [h2] <;> rfl) ?_
  refine WpO.run tabOk 1 (by simp -implicitDefEqProofs [h2] <;> first | exact ⟨rfl, rfl⟩ | rfl) ?_
  refine WpO.nil ?_
  refine WpC.seq ?_
  refine WpC.seq ?_
  refine WpC.region ?_
  refine WpO.run tabOk 1 (by simp -implicitDefEqProofs [h2] <;> first | exact ⟨rfl, rfl⟩ | rfl) ?_
  refine WpO.data (by simp) rfl (by simp -implicitDefEqProofs [h2] <;> rfl) (by simp -implicitDefEqProofs [h2] <;> rfl) (by simp -implicitDefEqProofs [h2] <;> rfl) call_12 (by simp) (hb) (by rfl) (by simp -implicitDefEqProofs [h2] <;> rfl) ?_
  refine WpO.run tabOk 2 (by simp -implicitDefEqProofs [h2] <;> first | exact ⟨rfl, rfl⟩ | rfl) ?_
  refine WpO.nil ?_
  refine WpC.condF (by simp -implicitDefEqProofs [h2] <;> rfl) ?_
  refine WpC.skip ?_
  refine WpC.seq ?_
  refine qR (by simp -implicitDefEqProofs [h2] <;> rfl) ?_
  refine WpC.condF (by simp -implicitDefEqProofs [h2] <;> rfl) ?_
  refine WpC.skip ?_
  refine WpC.seq ?_
  refine WpC.region ?_
  refine WpO.run tabOk 1 (by simp -implicitDefEqProofs [h2] <;> first | exact ⟨rfl, rfl⟩ | rfl) ?_
  refine WpO.data (by simp) rfl (by simp -implicitDefEqProofs [h2] <;> rfl) (by simp -implicitDefEqProofs [h2] <;> rfl) (by simp -implicitDefEqProofs [h2] <;> rfl) call_13 (by simp) (hrd) (by rfl) (by simp -implicitDefEqProofs [h2] <;> rfl) ?_
  refine WpO.run tabOk 6 (by simp -implicitDefEqProofs [h2] <;> first | exact ⟨rfl, rfl⟩ | rfl) ?_
  refine WpO.nil ?_
  refine WpC.seq ?_
  refine WpC.drawn tabOk (by kernel_rfl) 0 (by simp) ?_
  refine DrO.run (fz := []) 2 (by simp -implicitDefEqProofs [h2] <;> first | exact ⟨rfl, rfl, rfl, rfl⟩ | rfl) ?_
  refine DrO.data (by simp) rfl (by simp -implicitDefEqProofs [h2] <;> rfl) (by simp -implicitDefEqProofs [h2] <;> rfl) (by simp -implicitDefEqProofs [h2] <;> rfl) call_11 (hf) (by rfl) (by simp -implicitDefEqProofs [h2] <;> rfl) ?_
  refine DrO.data (by simp) rfl (by simp -implicitDefEqProofs [h2] <;> rfl) (by simp -implicitDefEqProofs [h2] <;> rfl) (by simp -implicitDefEqProofs [h2] <;> rfl) call_14 (ht) (by rfl) (by simp -implicitDefEqProofs [h2] <;> rfl) ?_
  refine DrO.run (fz := []) 2 (by simp -implicitDefEqProofs [h2] <;> first | exact ⟨rfl, rfl, rfl, rfl⟩ | rfl) ?_
  refine DrO.splitB 46 (by simp -implicitDefEqProofs [h2] <;> rfl) (by rfl) (fun g46 => ?_) (fun g46 => ?_)
  · try (exfalso; revert g46; simp; done)
    all_goals
      have g46' := g46; first | simp only [dT, dF] at g46' | try simp at g46'
      refine DrO.run (fz := []) 3 (by simp -implicitDefEqProofs [h2, g46] <;> first | exact ⟨rfl, rfl, rfl, rfl⟩ | rfl) ?_
      refine DrO.run (fz := []) 1 (by simp -implicitDefEqProofs [h2, g46] <;> first | exact ⟨rfl, rfl, rfl, rfl⟩ | rfl) ?_
      refine DrO.splitB 50 (by simp -implicitDefEqProofs [h2, g46] <;> rfl) (by rfl) (fun g50 => ?_) (fun g50 => ?_)
      · try (exfalso; revert g50; simp; done)
        all_goals
          have g50' := g50; first | simp only [dT, dF] at g50' | try simp at g50'
          refine DrO.run (fz := []) 3 (by simp -implicitDefEqProofs [h2, g46, g50] <;> first | exact ⟨rfl, rfl, rfl, rfl⟩ | rfl) ?_
          refine DrO.run (fz := []) 1 (by simp -implicitDefEqProofs [h2, g46, g50] <;> first | exact ⟨rfl, rfl, rfl, rfl⟩ | rfl) ?_
          refine DrO.splitB 54 (by simp -implicitDefEqProofs [h2, g46, g50] <;> rfl) (by rfl) (fun g54 => ?_) (fun g54 => ?_)
          · try (exfalso; revert g54; simp; done)
            all_goals
              have g54' := g54; first | simp only [dT, dF] at g54' | try simp at g54'
              refine DrO.run (fz := []) 1 (by simp -implicitDefEqProofs [h2, g46, g50, g54] <;> first | exact ⟨rfl, rfl, rfl, rfl⟩ | rfl) ?_
              refine DrO.data (by simp) rfl (by simp -implicitDefEqProofs [h2, g46, g50, g54] <;> rfl) (by simp -implicitDefEqProofs [h2, g46, g50, g54] <;> rfl) (by simp -implicitDefEqProofs [h2, g46, g50, g54] <;> rfl) call_11 (hf) (by rfl) (by simp -implicitDefEqProofs [h2, g46, g50, g54] <;> rfl) ?_
              refine DrO.run (fz := []) 1 (by simp -implicitDefEqProofs [h2, g46, g50, g54] <;> first | exact ⟨rfl, rfl, rfl, rfl⟩ | rfl) ?_
              refine DrO.data (by simp) rfl (by simp -implicitDefEqProofs [h2, g46, g50, g54] <;> rfl) (by simp -implicitDefEqProofs [h2, g46, g50, g54] <;> rfl) (by simp -implicitDefEqProofs [h2, g46, g50, g54] <;> rfl) call_11 (hf) (by rfl) (by simp -implicitDefEqProofs [h2, g46, g50, g54] <;> rfl) ?_
              refine DrO.data (by simp) rfl (by simp -implicitDefEqProofs [h2, g46, g50, g54] <;> rfl) (by simp -implicitDefEqProofs [h2, g46, g50, g54] <;> rfl) (by simp -implicitDefEqProofs [h2, g46, g50, g54] <;> rfl) call_15 (hsm) (by rfl) (by simp -implicitDefEqProofs [h2, g46, g50, g54] <;> rfl) ?_
              refine DrO.run (fz := []) 2 (by simp -implicitDefEqProofs [h2, g46, g50, g54] <;> first | exact ⟨rfl, rfl, rfl, rfl⟩ | rfl) ?_
              refine DrO.splitB 61 (by simp -implicitDefEqProofs [h2, g46, g50, g54] <;> rfl) (by rfl) (fun g61 => ?_) (fun g61 => ?_)
              · try (exfalso; revert g61; simp; done)
                all_goals
                  have g61' := g61; first | simp only [dT, dF] at g61' | try simp at g61'
                  refine DrO.data (by simp) rfl (by simp -implicitDefEqProofs [h2, g46, g50, g54, g61] <;> rfl) (by simp -implicitDefEqProofs [h2, g46, g50, g54, g61] <;> rfl) (by simp -implicitDefEqProofs [h2, g46, g50, g54, g61] <;> rfl) call_8 (awake_ok) (by rfl) (by simp -implicitDefEqProofs [h2, g46, g50, g54, g61] <;> rfl) ?_
                  refine DrO.run (fz := []) 2 (by simp -implicitDefEqProofs [h2, g46, g50, g54, g61] <;> first | exact ⟨rfl, rfl, rfl, rfl⟩ | rfl) ?_
                  refine DrO.nil ⟨by kernel_rfl, ?_⟩
                  refine WpC.ret ?_
                  try simp only [blockQ, seqQ]
                  refine retD_i (by simp -implicitDefEqProofs [h2, g46, g50, g54, g61] <;> rfl) (by simp -implicitDefEqProofs [h2, g46, g50, g54, g61] <;> rfl) ?_
                  simp -implicitDefEqProofs [h2, g46, g50, g54, g61]
              · try (exfalso; revert g61; simp; done)
                all_goals
                  have g61' := g61; first | simp only [dT, dF] at g61' | try simp at g61'
                  refine DrO.run (fz := []) 3 (by simp -implicitDefEqProofs [h2, g46, g50, g54, g61] <;> first | exact ⟨rfl, rfl, rfl, rfl⟩ | rfl) ?_
                  refine DrO.nil ⟨by kernel_rfl, ?_⟩
                  refine WpC.ret ?_
                  try simp only [blockQ, seqQ]
                  refine retD_i (by simp -implicitDefEqProofs [h2, g46, g50, g54, g61] <;> rfl) (by simp -implicitDefEqProofs [h2, g46, g50, g54, g61] <;> rfl) ?_
                  simp -implicitDefEqProofs [h2, g46, g50, g54, g61]
          · try (exfalso; revert g54; simp; done)
            all_goals
              have g54' := g54; first | simp only [dT, dF] at g54' | try simp at g54'
              refine DrO.run (fz := []) 3 (by simp -implicitDefEqProofs [h2, g46, g50, g54] <;> first | exact ⟨rfl, rfl, rfl, rfl⟩ | rfl) ?_
              refine DrO.run (fz := []) 3 (by simp -implicitDefEqProofs [h2, g46, g50, g54] <;> first | exact ⟨rfl, rfl, rfl, rfl⟩ | rfl) ?_
              refine DrO.run (fz := []) 3 (by simp -implicitDefEqProofs [h2, g46, g50, g54] <;> first | exact ⟨rfl, rfl, rfl, rfl⟩ | rfl) ?_
              refine DrO.run (fz := []) 1 (by simp -implicitDefEqProofs [h2, g46, g50, g54] <;> first | exact ⟨rfl, rfl, rfl, rfl⟩ | rfl) ?_
              refine DrO.nil ⟨by kernel_rfl, ?_⟩
              refine WpC.ret ?_
              try simp only [blockQ, seqQ]
              refine retD_i (by simp -implicitDefEqProofs [h2, g46, g50, g54] <;> rfl) (by simp -implicitDefEqProofs [h2, g46, g50, g54] <;> rfl) ?_
              simp -implicitDefEqProofs [h2, g46, g50, g54]
      · try (exfalso; revert g50; simp; done)
        all_goals
          have g50' := g50; first | simp only [dT, dF] at g50' | try simp at g50'
          refine DrO.run (fz := []) 3 (by simp -implicitDefEqProofs [h2, g46, g50] <;> first | exact ⟨rfl, rfl, rfl, rfl⟩ | rfl) ?_
          refine DrO.run (fz := []) 3 (by simp -implicitDefEqProofs [h2, g46, g50] <;> first | exact ⟨rfl, rfl, rfl, rfl⟩ | rfl) ?_
          refine DrO.run (fz := []) 3 (by simp -implicitDefEqProofs [h2, g46, g50] <;> first | exact ⟨rfl, rfl, rfl, rfl⟩ | rfl) ?_
          refine DrO.run (fz := []) 3 (by simp -implicitDefEqProofs [h2, g46, g50] <;> first | exact ⟨rfl, rfl, rfl, rfl⟩ | rfl) ?_
          refine DrO.run (fz := []) 2 (by simp -implicitDefEqProofs [h2, g46, g50] <;> first | exact ⟨rfl, rfl, rfl, rfl⟩ | rfl) ?_
          refine DrO.nil ⟨by kernel_rfl, ?_⟩
          refine WpC.ret ?_
          try simp only [blockQ, seqQ]
          refine retD_i (by simp -implicitDefEqProofs [h2, g46, g50] <;> rfl) (by simp -implicitDefEqProofs [h2, g46, g50] <;> rfl) ?_
          simp -implicitDefEqProofs [h2, g46, g50]
  · try (exfalso; revert g46; simp; done)
    all_goals
      have g46' := g46; first | simp only [dT, dF] at g46' | try simp at g46'
      refine DrO.run (fz := []) 3 (by simp -implicitDefEqProofs [h2, g46] <;> first | exact ⟨rfl, rfl, rfl, rfl⟩ | rfl) ?_
      refine DrO.run (fz := []) 3 (by simp -implicitDefEqProofs [h2, g46] <;> first | exact ⟨rfl, rfl, rfl, rfl⟩ | rfl) ?_
      refine DrO.run (fz := []) 3 (by simp -implicitDefEqProofs [h2, g46] <;> first | exact ⟨rfl, rfl, rfl, rfl⟩ | rfl) ?_
      refine DrO.run (fz := []) 3 (by simp -implicitDefEqProofs [h2, g46] <;> first | exact ⟨rfl, rfl, rfl, rfl⟩ | rfl) ?_
      refine DrO.run (fz := []) 3 (by simp -implicitDefEqProofs [h2, g46] <;> first | exact ⟨rfl, rfl, rfl, rfl⟩ | rfl) ?_
      refine DrO.run (fz := []) 3 (by simp -implicitDefEqProofs [h2, g46] <;> first | exact ⟨rfl, rfl, rfl, rfl⟩ | rfl) ?_
      refine DrO.nil ⟨by kernel_rfl, ?_⟩
      refine WpC.ret ?_
      try simp only [blockQ, seqQ]
      refine retD_i (by simp -implicitDefEqProofs [h2, g46] <;> rfl) (by simp -implicitDefEqProofs [h2, g46] <;> rfl) ?_
      simp -implicitDefEqProofs [h2, g46]
theorem bankWrites_walk (per : Int) (l : List Pm) : Gives Tryd.prog 3 [.d (encF per l)] (.d (.bool true)) := by
  by_cases h : l.length ≤ 100
  · cases hr : rightB per l with
    | true => exact writes_yes per l h hr
    | false => exact writes_no per l h hr
  · exact writes_long per l (by omega)
end Go.Proofs.YtjlamhilnkadcaaDoor.Pay
