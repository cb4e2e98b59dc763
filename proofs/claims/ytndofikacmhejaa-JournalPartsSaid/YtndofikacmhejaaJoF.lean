/- That journal's laws are awake. No statement of the seed is proved here. -/
import Derived.Test.YtndofikacmhejaaJoE
namespace Go.Proofs.Ytndofikacmhejaa.Pay
open Go Go.Proofs
set_option maxHeartbeats 16000000
set_option linter.unusedSimpArgs false

theorem eqPst (p q : Pst) : EqT Try.prog 34 [dI p.acc, dI p.ctr, dI p.amt] [dI q.acc, dI q.ctr, dI q.amt] (decide (p.acc = q.acc) && decide (p.ctr = q.ctr) && decide (p.amt = q.amt)) := by
  refine ⟨by kernel_rfl, fun w I vs us h1 h2 => ?_⟩
  simp only [DRelL, DRel, dI] at h1 h2
  obtain ⟨_, _, rfl, rfl, _, _, rfl, rfl, _, _, rfl, rfl, rfl⟩ := h1
  obtain ⟨_, _, rfl, rfl, _, _, rfl, rfl, _, _, rfl, rfl, rfl⟩ := h2
  have hu := Try.underlying34
  have hi := Try.underlying3
  have ha : ∀ w, (isAgg 3).run Try.prog w = .ok false w := fun w => by simp [isAgg, run_underlying hi]
  unfold Op.equal
  rw [show Op.maxDepth = 9999 + 1 from rfl, run_equalIn_struct w _ _ _ _ (by simp only [Program.fieldsOf, hu]) (by kernel_rfl)]
  have he : ∀ (w : World) (a b : Int), (Op.equalIn 9999 3 (.int .i64 a) (.int .i64 b)).run Try.prog w = .ok (decide (a = b)) w := fun w a b => by
    rw [show (9999 : Nat) = 9998 + 1 from rfl]
    unfold Op.equalIn
    simp [run_underlying hi]
  by_cases h1 : p.acc = q.acc <;> by_cases h2 : p.ctr = q.ctr <;> by_cases h3 : p.amt = q.amt <;> simp [Program.fieldsOf, hu, Op.eqFields, part, ha, he, h1, h2, h3]

def e0 : Ent := ⟨0, 0, 0, 5, 0, [], 10000, 0, 0, 0, 0, 0, 0, 1000, 0, 0, 9000, 0, [], [], [], []⟩
def p0 : List Pst := [⟨4000, 5, 10000⟩, ⟨2000, 5, -9000⟩, ⟨2100, 5, -1000⟩]
theorem of0 : ofS e0 [] = (p0, 0) := by kernel_rfl
theorem tot0 : tot p0 0 0 = some (10000, 10000) := by kernel_rfl
theorem bal0 : balance p0 2000 (-1) = -9000 := by kernel_rfl
theorem flt0 : (FloatKind.f64.format.order (fN 10000) 4666723172467343360 == some .eq) = true := by kernel_rfl

theorem awake_ok : WpF Try.prog 12 [] [] (fun r S => r = .d (.bool true) ∧ S = []) := by
  refine WpF.enter tabOk Try.func12 rfl (by show 0 ≤ 50; decide) ?_
  simp only [Try.f12]
  refine WpC.seq (WpC.ops tabOk (r := []) (by simp -implicitDefEqProofs <;> rfl) rfl ?_)
  refine WpC.seq (WpC.region ?_)
  refine WpO.run tabOk 3 (by simp -implicitDefEqProofs <;> exact ⟨rfl, rfl⟩) ?_
  refine WpO.callD (by simp) rfl (by simp -implicitDefEqProofs <;> rfl) (by simp -implicitDefEqProofs <;> rfl) (by simp -implicitDefEqProofs <;> rfl) call_18 (by simp) (WpF.le (of_ok e0 [] (by simp [Ent.brief, e0]) (by simp)) (by simp [leA, FV.le, D.leL, Ent.enc, Ent.encC, Ent.encR, encIs, encOs, dI, e0])) fun r S1 hr => ?_
  rw [of0] at hr
  obtain ⟨rfl, rfl⟩ := hr
  refine ⟨_, by simp [p0] <;> rfl, ?_⟩
  refine WpO.run tabOk 5 (by simp -implicitDefEqProofs <;> exact ⟨rfl, rfl⟩) ?_
  refine WpO.nil ?_
  refine WpC.seq (WpC.region ?_)
  refine WpO.run tabOk 1 (by simp -implicitDefEqProofs <;> exact ⟨rfl, rfl⟩) ?_
  refine WpO.callL (by simp) rfl (by simp -implicitDefEqProofs [encPs, p0] <;> rfl) (by simp -implicitDefEqProofs [encPs, p0] <;> rfl) (by simp -implicitDefEqProofs [encPs, p0] <;> rfl) call_13 (totals_ok p0 (by simp [p0]) (by simp [p0, Pst.ok, inI])) fun r S1 hr => ?_
  rw [tot0] at hr
  obtain ⟨rfl, rfl⟩ := hr
  refine ⟨by simp [totF], _, by simp [totF, dI] <;> rfl, ?_⟩
  refine WpO.run tabOk 5 (by simp -implicitDefEqProofs <;> exact ⟨rfl, rfl⟩) ?_
  refine WpO.nil ?_
  refine WpC.seq (WpC.region ?_)
  refine WpO.run tabOk 12 (by simp -implicitDefEqProofs [dI, Pst.enc] <;> exact ⟨rfl, rfl⟩) ?_
  refine WpO.eqS false (by simp) rfl (by simp [dI]) (by simp [dI]) (eqPst ⟨4000, 5, 10000⟩ ⟨4000, 5, 10000⟩) (by simp; rfl) ?_
  refine WpO.run tabOk 17 (by simp -implicitDefEqProofs [flt0] <;> exact ⟨rfl, rfl⟩) ?_
  refine WpO.callL (by simp) rfl (by simp -implicitDefEqProofs [encPs, p0, Pst.enc, dI] <;> rfl) (by simp -implicitDefEqProofs [encPs, p0, Pst.enc, dI] <;> rfl) (by simp -implicitDefEqProofs [encPs, p0, Pst.enc, dI] <;> rfl) call_16 (balance_ok p0 2000 (-1) (by simp [p0])) fun r S1 hr => ?_
  rw [bal0] at hr
  obtain ⟨rfl, rfl⟩ := hr
  refine ⟨by simp, _, by simp <;> rfl, ?_⟩
  refine WpO.run tabOk 3 (by simp -implicitDefEqProofs <;> exact ⟨rfl, rfl⟩) ?_
  refine WpO.nil ?_
  refine WpC.gh (Gh.cut' [0] 0 (by simp; rfl) rfl rfl rfl rfl (by simp)) (WpC.ret ?_)
  simp
end Go.Proofs.Ytndofikacmhejaa.Pay
