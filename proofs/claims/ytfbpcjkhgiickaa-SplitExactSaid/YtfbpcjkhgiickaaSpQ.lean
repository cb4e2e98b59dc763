/- That split's laws are awake; what Split gives, as a list. No statement of the seed is proved here. -/
import Derived.Test.YtfbpcjkhgiickaaSpO
import Derived.Test.YtfbpcjkhgiickaaSpX
namespace Go.Proofs.Ytfbpcjkhgiickaa.Pay
open Go Go.RowKit
set_option linter.unusedVariables false
set_option linter.unusedSimpArgs false
set_option linter.unusedSectionVars false

def evenS (T n : Int) : List Int := if n < 1 then [] else if 60 < n then [] else spS T (List.replicate n.toNat 1)
theorem evenL_ok (T n : Int) (hT : in64 T) : Gives Try.prog 10 [.d (dI T), .d (dI n)] (.tup [.d (.list 1 ((evenS T n).map dI)), .d (dI (evenE T n))]) := by
  have : (evenS T n).map dI = evenR T n := by
    unfold evenS evenR
    split
    · rfl
    · split
      · rfl
      · exact (spR_map _ _).symm
  rw [this]; exact even_ok T n hT
theorem aw4a : spS 100 [1, 1, 1] = [34, 33, 33] ∧ spE 100 [1, 1, 1] = 0 := by decide +kernel
theorem aw4b : evenS 7 2 = [4, 3] ∧ evenE 7 2 = 0 := by decide +kernel
set_option maxHeartbeats 4000000 in
theorem awake4_ok : Gives Try.prog 8 [] (.d (.bool true)) := by
  have h1 := splitL_ok 100 [1, 1, 1] ⟨by decide, by decide⟩ (by intro x hx; simp at hx; subst hx; exact ⟨by decide, by decide⟩) (by simp)
  have h2 := evenL_ok 7 2 ⟨by decide, by decide⟩
  rw [aw4a.1, aw4a.2] at h1
  rw [aw4b.1, aw4b.2] at h2
  have h3 := same_ok [34, 33, 33] [34, 33, 33] (by simp) (by simp)
  have h4 := same_ok [4, 3] [4, 3] (by simp) (by simp)
  simp only [decide_true] at h3 h4
  refine Gives.enter tabOk Try.func8 rfl (by show 0 ≤ 30; decide) ?_
  simp only [Try.f8]
  refine WpC.seq (WpC.ops tabOk (r := []) (by simp -implicitDefEqProofs <;> rfl) rfl ?_)
  refine WpC.seq ?_
  refine WpC.region ?_
  refine WpO.run tabOk 1 (by simp -implicitDefEqProofs <;> first | exact ⟨rfl, rfl⟩ | rfl) ?_
  refine WpO.gh (Gh.frz [0]) ?_
  refine WpO.data (by simp) rfl (by simp -implicitDefEqProofs <;> rfl) (by simp -implicitDefEqProofs <;> rfl) (by simp -implicitDefEqProofs <;> rfl) call_9 (by simp) ( h1) (by rfl) (by simp -implicitDefEqProofs <;> rfl) ?_
  refine WpO.run tabOk 5 (by simp -implicitDefEqProofs <;> first | exact ⟨rfl, rfl⟩ | rfl) ?_
  refine WpO.nil ?_
  refine WpC.seq ?_
  refine WpC.region ?_
  refine WpO.data (by simp) rfl (by simp -implicitDefEqProofs <;> rfl) (by simp -implicitDefEqProofs <;> rfl) (by simp -implicitDefEqProofs <;> rfl) call_10 (by simp) (h2) (by rfl) (by simp -implicitDefEqProofs <;> rfl) ?_
  refine WpO.run tabOk 5 (by simp -implicitDefEqProofs <;> first | exact ⟨rfl, rfl⟩ | rfl) ?_
  refine WpO.nil ?_
  refine WpC.seq ?_
  refine WpC.region ?_
  refine WpO.run tabOk 2 (by simp -implicitDefEqProofs <;> first | exact ⟨rfl, rfl⟩ | rfl) ?_
  refine WpO.lend (by simp) rfl (by simp -implicitDefEqProofs <;> rfl) (by simp -implicitDefEqProofs <;> rfl) (by simp -implicitDefEqProofs <;> rfl) call_12 (h3) (by rfl) (by simp -implicitDefEqProofs <;> rfl) ?_
  refine WpO.run tabOk 1 (by simp -implicitDefEqProofs <;> first | exact ⟨rfl, rfl⟩ | rfl) ?_
  refine WpO.splitB 17 (by simp -implicitDefEqProofs <;> rfl) (by rfl) (fun g17 => ?_) (fun g17 => ?_)
  · have g17' := g17; first | simp only [dT, dF] at g17' | try simp at g17'
    refine WpO.run tabOk 4 (by simp -implicitDefEqProofs [g17] <;> first | exact ⟨rfl, rfl⟩ | rfl) ?_
    refine WpO.splitB 21 (by simp -implicitDefEqProofs [g17] <;> rfl) (by rfl) (fun g21 => ?_) (fun g21 => ?_)
    · have g21' := g21; first | simp only [dT, dF] at g21' | try simp at g21'
      refine WpO.run tabOk 2 (by simp -implicitDefEqProofs [g17, g21] <;> first | exact ⟨rfl, rfl⟩ | rfl) ?_
      refine WpO.lend (by simp) rfl (by simp -implicitDefEqProofs [g17, g21] <;> rfl) (by simp -implicitDefEqProofs [g17, g21] <;> rfl) (by simp -implicitDefEqProofs [g17, g21] <;> rfl) call_12 (h4) (by rfl) (by simp -implicitDefEqProofs [g17, g21] <;> rfl) ?_
      refine WpO.run tabOk 2 (by simp -implicitDefEqProofs [g17, g21] <;> first | exact ⟨rfl, rfl⟩ | rfl) ?_
      refine WpO.splitB 26 (by simp -implicitDefEqProofs [g17, g21] <;> rfl) (by rfl) (fun g26 => ?_) (fun g26 => ?_)
      · have g26' := g26; first | simp only [dT, dF] at g26' | try simp at g26'
        refine WpO.run tabOk 4 (by simp -implicitDefEqProofs [g17, g21, g26] <;> first | exact ⟨rfl, rfl⟩ | rfl) ?_
        refine WpO.nil ?_
        refine WpC.ret ?_
        try simp only [blockQ, seqQ]
        refine retD_i (by simp -implicitDefEqProofs [g17, g21, g26] <;> rfl) (by simp -implicitDefEqProofs [g17, g21, g26] <;> rfl) ?_
        simp -implicitDefEqProofs [g17, g21, g26]
      · exact absurd g26 (by simp)
    · exact absurd g21 (by simp)
  · exact absurd g17 (by simp)
end Go.Proofs.Ytfbpcjkhgiickaa.Pay
