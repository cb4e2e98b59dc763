/- strings.Builder: WriteString walked; further functions of bytes. No statement of the seed is proved here. -/
import Derived.Test.YtjlamhilnkadcaaDoorStA
import Derived.Test.YtjlamhilnkadcaaDoorStB
namespace Go.Proofs.YtjlamhilnkadcaaDoor.Pay
open Go Go.RowKit
set_option linter.unusedVariables false
set_option linter.unusedSimpArgs false

theorem writeString_ok {p : FV} (hp : p = .d .nilp ∨ p = .ref 0 0) (l s : List UInt8) (h : l.length + s.length ≤ 8589934592) :
    WpF Tryd.prog 16 [.ref 0 0, .d (.str s)] [.cells tBld [p, .sl 1 l.length], .arr 5 1 (u8L l)]
      fun r S => r = .tup [.d (dI s.length), .d .nili] ∧ S = [.cells tBld [.ref 0 0, .sl 2 (l.length + s.length)], .gone, .arr 5 1 (u8L (l ++ s))] := by
  have hc := copyCheck_ok (S := [.cells tBld [p, .sl 1 l.length], .arr 5 1 (u8L l)]) (x := .sl 1 l.length) rfl hp
  have hr : ren (σ0 2 [0, 1]) p = p := by rcases hp with rfl | rfl <;> simp
  have hu : u8L l ++ u8L s = u8L (l ++ s) := by simp
  have hu2 : (u8L l).length = l.length := by simp
  have hu3 : (u8L s).length = s.length := by simp
  refine WpF.enter tabOk Tryd.func16 rfl (by show 2 ≤ 19; decide) ?_
  simp only [Tryd.f16]
  have H1 := And.intro hr (And.intro hu (And.intro hu2 (And.intro hu3 h)))
  refine qR (by simp -implicitDefEqProofs [H1] <;> rfl) ?_
  refine WpC.seq ?_
  refine WpC.region ?_
  refine WpO.run tabOk 1 (by simp -implicitDefEqProofs [H1] <;> first | exact ⟨rfl, rfl⟩ | rfl) ?_
  refine WpO.callP [0, 1] (by simp) rfl (by simp -implicitDefEqProofs [H1] <;> rfl) (by simp -implicitDefEqProofs [H1] <;> rfl) call_24 (by simp) (by simp) (by simp) (by simp -implicitDefEqProofs [H1]) (by simp; rfl) (by simp -implicitDefEqProofs [H1]) ( hc) fun r S1 hr => ?_
  obtain ⟨rfl, rfl⟩ := hr
  refine ⟨_, by simp -implicitDefEqProofs [H1] <;> rfl, ?_⟩
  refine WpO.nil ?_
  iterate 2 refine qR (by simp -implicitDefEqProofs [H1] <;> rfl) ?_
  refine WpC.ret ?_
  refine ⟨.inr rfl, _, rfl, ?_, by simp⟩
  simp [hu, pack]

end Go.Proofs.YtjlamhilnkadcaaDoor.Pay
