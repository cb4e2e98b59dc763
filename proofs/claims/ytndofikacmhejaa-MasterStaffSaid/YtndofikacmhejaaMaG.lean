/- Law 13's fixed answer, and what is plain about searching. No statement of the seed is proved here. -/
import Derived.Test.YtndofikacmhejaaMaF
namespace Go.Proofs.Ytndofikacmhejaa.Pay
open Go Go.RowKit
set_option linter.unusedVariables false
set_option linter.unusedSimpArgs false

/-- The search, with fuel. -/
def bsf : Nat → (Nat → Bool) → Nat → Nat → Nat
  | 0, _, i, _ => i
  | n + 1, lt, i, j => if i < j then (if lt ((i + j) / 2) = true then bsf n lt ((i + j) / 2 + 1) j else bsf n lt i ((i + j) / 2)) else i
theorem bs_fuel {lt : Nat → Bool} : ∀ {n i j : Nat}, j - i ≤ n → bs lt i j = bsf n lt i j
  | 0, i, j, h => by unfold bs bsf; rw [dif_neg (by omega)]
  | n + 1, i, j, h => by
    unfold bs bsf
    by_cases hij : i < j
    · rw [dif_pos hij, if_pos hij, bs_fuel (n := n) (by omega), bs_fuel (n := n) (by omega)]
    · rw [dif_neg hij, if_neg hij]
theorem srch_fuel {α : Type} (cmp : α → Int) (l : List α) : srch cmp l = bsf l.length (ltAt cmp l) 0 l.length := bs_fuel (by omega)
/-- All are below. -/
theorem bs_all {lt : Nat → Bool} : ∀ {n i j : Nat}, j - i ≤ n → i ≤ j → (∀ k, i ≤ k → k < j → lt k = true) → bs lt i j = j
  | 0, i, j, h, h1, h2 => by unfold bs; rw [dif_neg (by omega)]; omega
  | n + 1, i, j, h, h1, h2 => by
    unfold bs
    by_cases hij : i < j
    · rw [dif_pos hij, if_pos (h2 _ (by omega) (by omega))]
      exact bs_all (n := n) (by omega) (by omega) fun k hk hk' => h2 k (by omega) hk'
    · rw [dif_neg hij]; omega

def aw1 : Rec := ⟨24276, 1, 100, 0, 0, 0, false⟩
def aw2 : Rec := ⟨24278, 2, 200, 0, 0, 0, false⟩
def aw3 : Rec := ⟨24276, 0, 0, 0, 0, 0, false⟩
theorem aw_h1 : hireS [] 7 aw1 = ([⟨7, 24276, 0, [aw1], []⟩], 0) := by
  simp [hireS, srchB, srch_fuel, bsf, aw1, hireBad, rightB, bigB, periodB]
theorem aw_h2 : changeS [⟨7, 24276, 0, [aw1], []⟩] 7 aw2 = ([⟨7, 24276, 0, [aw1, aw2], []⟩], 0) := by
  have hw : IntKind.i64.wrap 0 = 0 := by decide
  have hw2 : IntKind.i64.wrap (-2) = -2 := by decide
  simp [changeS, recS, srchB, srch_fuel, bsf, ltAt, perCmp, recCmp, aw1, aw2, hireBad, rightB, bigB, periodB, hw, hw2]
theorem aw_h3 : atS [⟨7, 24276, 0, [aw1, aw2], []⟩] 7 24277 = (aw1, 0) := by
  have hw : IntKind.i64.wrap 0 = 0 := by decide
  simp [atS, findS, srchB, srch_fuel, bsf, ltAt, perCmp, aw1, aw2, hw, onStep]
theorem aw_h4 : hireS [⟨7, 24276, 0, [aw1, aw2], []⟩] 7 aw3 = ([⟨7, 24276, 0, [aw1, aw2], []⟩], 6) := by
  have hw : IntKind.i64.wrap 0 = 0 := by decide
  simp [hireS, srchB, srch_fuel, bsf, ltAt, perCmp, aw3, hireBad, rightB, bigB, periodB, hw]
theorem aw_h5 : staffS [⟨7, 24276, 0, [aw1, aw2], []⟩] 24276 = [7] := by
  have hw : IntKind.i64.wrap 0 = 0 := by decide
  simp [staffS, atS, findS, srchB, srch_fuel, bsf, ltAt, perCmp, aw1, aw2, hw, onStep]

theorem awake13_ok : Gives Try.prog 19 [] (.d (.bool true)) := by
  have h1 := hire_ok [] 7 aw1 (by simp)
  rw [aw_h1] at h1
  have h1' : Gives Try.prog 20 [.d (.agg [.nil]), .d (dI 7), .d aw1.enc] _ := Gives.le h1 (by simp [leA, FV.le, D.leL])
  have h2 := change_ok [⟨7, 24276, 0, [aw1], []⟩] 7 aw2 (by simp) (by simp)
  rw [aw_h2] at h2
  have h3 := at_ok [⟨7, 24276, 0, [aw1, aw2], []⟩] 7 24277 (by simp) (by simp)
  rw [aw_h3] at h3
  have h4 := hire_ok [⟨7, 24276, 0, [aw1, aw2], []⟩] 7 aw3 (by simp)
  rw [aw_h4] at h4
  have h5 := staff_ok [⟨7, 24276, 0, [aw1, aw2], []⟩] 24276 (by simp) (by simp)
  rw [aw_h5] at h5
  refine Gives.enter tabOk Try.func19 rfl (by show 0 ≤ 67; decide) ?_
  simp only [Try.f19]
  refine WpC.seq (WpC.ops tabOk (r := []) (by simp -implicitDefEqProofs [aw1, aw2, aw3] <;> rfl) rfl ?_)
  refine WpC.seq ?_
  refine WpC.region ?_
  refine WpO.run tabOk 3 (by simp -implicitDefEqProofs [aw1, aw2, aw3] <;> first | exact ⟨rfl, rfl⟩ | rfl) ?_
  refine WpO.data (by simp) rfl (by simp -implicitDefEqProofs [aw1, aw2, aw3] <;> rfl) (by simp -implicitDefEqProofs [aw1, aw2, aw3] <;> rfl) (by simp -implicitDefEqProofs [aw1, aw2, aw3] <;> rfl) call_20 (by simp) (h1') (by rfl) (by simp -implicitDefEqProofs [aw1, aw2, aw3] <;> rfl) ?_
  refine WpO.run tabOk 6 (by simp -implicitDefEqProofs [aw1, aw2, aw3] <;> first | exact ⟨rfl, rfl⟩ | rfl) ?_
  refine WpO.nil ?_
  refine WpC.seq ?_
  refine WpC.region ?_
  refine WpO.run tabOk 3 (by simp -implicitDefEqProofs [aw1, aw2, aw3] <;> first | exact ⟨rfl, rfl⟩ | rfl) ?_
  refine WpO.data (by simp) rfl (by simp -implicitDefEqProofs [aw1, aw2, aw3] <;> rfl) (by simp -implicitDefEqProofs [aw1, aw2, aw3] <;> rfl) (by simp -implicitDefEqProofs [aw1, aw2, aw3] <;> rfl) call_21 (by simp) (h2) (by rfl) (by simp -implicitDefEqProofs [aw1, aw2, aw3] <;> rfl) ?_
  refine WpO.run tabOk 5 (by simp -implicitDefEqProofs [aw1, aw2, aw3] <;> first | exact ⟨rfl, rfl⟩ | rfl) ?_
  refine WpO.nil ?_
  refine WpC.seq ?_
  refine WpC.region ?_
  refine WpO.run tabOk 1 (by simp -implicitDefEqProofs [aw1, aw2, aw3] <;> first | exact ⟨rfl, rfl⟩ | rfl) ?_
  refine WpO.data (by simp) rfl (by simp -implicitDefEqProofs [aw1, aw2, aw3] <;> rfl) (by simp -implicitDefEqProofs [aw1, aw2, aw3] <;> rfl) (by simp -implicitDefEqProofs [aw1, aw2, aw3] <;> rfl) call_22 (by simp) (h3) (by rfl) (by simp -implicitDefEqProofs [aw1, aw2, aw3] <;> rfl) ?_
  refine WpO.run tabOk 6 (by simp -implicitDefEqProofs [aw1, aw2, aw3] <;> first | exact ⟨rfl, rfl⟩ | rfl) ?_
  refine WpO.nil ?_
  refine WpC.seq ?_
  refine WpC.region ?_
  refine WpO.run tabOk 2 (by simp -implicitDefEqProofs [aw1, aw2, aw3] <;> first | exact ⟨rfl, rfl⟩ | rfl) ?_
  refine WpO.data (by simp) rfl (by simp -implicitDefEqProofs [aw1, aw2, aw3] <;> rfl) (by simp -implicitDefEqProofs [aw1, aw2, aw3] <;> rfl) (by simp -implicitDefEqProofs [aw1, aw2, aw3] <;> rfl) call_20 (by simp) (h4) (by rfl) (by simp -implicitDefEqProofs [aw1, aw2, aw3] <;> rfl) ?_
  refine WpO.run tabOk 6 (by simp -implicitDefEqProofs [aw1, aw2, aw3] <;> first | exact ⟨rfl, rfl⟩ | rfl) ?_
  refine WpO.nil ?_
  refine WpC.seq ?_
  refine WpC.region ?_
  refine WpO.run tabOk 1 (by simp -implicitDefEqProofs [aw1, aw2, aw3] <;> first | exact ⟨rfl, rfl⟩ | rfl) ?_
  refine WpO.data (by simp) rfl (by simp -implicitDefEqProofs [aw1, aw2, aw3] <;> rfl) (by simp -implicitDefEqProofs [aw1, aw2, aw3] <;> rfl) (by simp -implicitDefEqProofs [aw1, aw2, aw3] <;> rfl) call_24 (by simp) (h5) (by rfl) (by simp -implicitDefEqProofs [aw1, aw2, aw3] <;> rfl) ?_
  refine WpO.run tabOk 1 (by simp -implicitDefEqProofs [aw1, aw2, aw3] <;> first | exact ⟨rfl, rfl⟩ | rfl) ?_
  refine WpO.nil ?_
  refine WpC.seq ?_
  refine WpC.val 0 (.d (.bool (true))) ?_ ?_
  · refine WpC.region ?_
    refine WpO.run tabOk 3 (by simp -implicitDefEqProofs [aw1, aw2, aw3] <;> first | exact ⟨rfl, rfl⟩ | rfl) ?_
    refine WpO.splitB 38 (by simp -implicitDefEqProofs [aw1, aw2, aw3] <;> rfl) (by rfl) (fun g38 => ?_) (fun g38 => ?_)
    · have g38' := g38; first | simp only [dT, dF] at g38' | try simp at g38'
      refine WpO.run tabOk 4 (by simp -implicitDefEqProofs [aw1, aw2, aw3, g38] <;> first | exact ⟨rfl, rfl⟩ | rfl) ?_
      refine WpO.splitB 42 (by simp -implicitDefEqProofs [aw1, aw2, aw3, g38] <;> rfl) (by rfl) (fun g42 => ?_) (fun g42 => ?_)
      · have g42' := g42; first | simp only [dT, dF] at g42' | try simp at g42'
        refine WpO.run tabOk 4 (by simp -implicitDefEqProofs [aw1, aw2, aw3, g38, g42] <;> first | exact ⟨rfl, rfl⟩ | rfl) ?_
        refine WpO.splitB 46 (by simp -implicitDefEqProofs [aw1, aw2, aw3, g38, g42] <;> rfl) (by rfl) (fun g46 => ?_) (fun g46 => ?_)
        · have g46' := g46; first | simp only [dT, dF] at g46' | try simp at g46'
          refine WpO.run tabOk 6 (by simp -implicitDefEqProofs [aw1, aw2, aw3, g38, g42, g46] <;> first | exact ⟨rfl, rfl⟩ | rfl) ?_
          refine WpO.splitB 52 (by simp -implicitDefEqProofs [aw1, aw2, aw3, g38, g42, g46] <;> rfl) (by rfl) (fun g52 => ?_) (fun g52 => ?_)
          · have g52' := g52; first | simp only [dT, dF] at g52' | try simp at g52'
            refine WpO.run tabOk 4 (by simp -implicitDefEqProofs [aw1, aw2, aw3, g38, g42, g46, g52] <;> first | exact ⟨rfl, rfl⟩ | rfl) ?_
            refine WpO.splitB 56 (by simp -implicitDefEqProofs [aw1, aw2, aw3, g38, g42, g46, g52] <;> rfl) (by rfl) (fun g56 => ?_) (fun g56 => ?_)
            · have g56' := g56; first | simp only [dT, dF] at g56' | try simp at g56'
              refine WpO.run tabOk 5 (by simp -implicitDefEqProofs [aw1, aw2, aw3, g38, g42, g46, g52, g56] <;> first | exact ⟨rfl, rfl⟩ | rfl) ?_
              refine WpO.splitB 61 (by simp -implicitDefEqProofs [aw1, aw2, aw3, g38, g42, g46, g52, g56] <;> rfl) (by rfl) (fun g61 => ?_) (fun g61 => ?_)
              · have g61' := g61; first | simp only [dT, dF] at g61' | try simp at g61'
                refine WpO.run tabOk 6 (by simp -implicitDefEqProofs [aw1, aw2, aw3, g38, g42, g46, g52, g56, g61] <;> first | exact ⟨rfl, rfl⟩ | rfl) ?_
                refine WpO.nil ?_
                refine ⟨rfl, Gh.only 0 38 ?_ (by first | rfl | simp -implicitDefEqProofs [aw1, aw2, aw3, g38, g42, g46, g52, g56, g61]) (by rfl)⟩
                simp -implicitDefEqProofs [aw1, aw2, aw3, g38, g42, g46, g52, g56, g61, g38', g42', g46', g52', g56', g61']
              · exact absurd g61 (by simp)
            · exact absurd g56 (by simp)
          · exact absurd g52 (by simp)
        · exact absurd g46 (by simp)
      · exact absurd g42 (by simp)
    · exact absurd g38 (by simp)
  refine WpC.ret ?_
  try simp only [blockQ, seqQ]
  refine retD_i (by simp -implicitDefEqProofs [aw1, aw2, aw3] <;> rfl) (by simp -implicitDefEqProofs [aw1, aw2, aw3] <;> rfl) ?_
  simp
end Go.Proofs.Ytndofikacmhejaa.Pay
