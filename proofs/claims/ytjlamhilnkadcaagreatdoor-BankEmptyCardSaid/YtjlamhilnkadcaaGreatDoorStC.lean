/- strings.Builder: WriteString walked; further functions of bytes. No statement of the seed is proved here. -/
import Derived.Test.YtjlamhilnkadcaaGreatDoorStA
import Derived.Test.YtjlamhilnkadcaaGreatDoorStB
namespace Go.Proofs.YtjlamhilnkadcaaGreatDoor.Pay
open Go Go.RowKit
set_option linter.unusedVariables false
set_option linter.unusedSimpArgs false

theorem writeString_ok {p : FV} (hp : p = .d .nilp ∨ p = .ref 0 0) (l s : List UInt8) (h : l.length + s.length ≤ 8589934592) :
    WpF Tryz.prog 13 [.ref 0 0, .d (.str s)] [.cells tBld [p, .sl 1 l.length], .arr 5 1 (u8L l)]
      fun r S => r = .tup [.d (dI s.length), .d .nili] ∧ S = [.cells tBld [.ref 0 0, .sl 2 (l.length + s.length)], .gone, .arr 5 1 (u8L (l ++ s))] := by
  have hc := copyCheck_ok (S := [.cells tBld [p, .sl 1 l.length], .arr 5 1 (u8L l)]) (x := .sl 1 l.length) rfl hp
  have hr : ren (σ0 2 [0, 1]) p = p := by rcases hp with rfl | rfl <;> simp
  have hu : u8L l ++ u8L s = u8L (l ++ s) := by simp
  have hu2 : (u8L l).length = l.length := by simp
  have hu3 : (u8L s).length = s.length := by simp
  refine WpF.enter tabOk Tryz.func13 rfl (by show 2 ≤ 19; decide) ?_
  simp only [Tryz.f13]
  have H := And.intro hr (And.intro hu (And.intro hu2 (And.intro hu3 h)))
  refine zR ?_
  refine WpC.seq ?_
  refine WpC.region ?_
  refine zO 1 ?_
  refine zP [0, 1] call_26 ( hc) ?_
  refine WpO.nil ?_
  iterate 2 refine zR ?_
  refine WpC.ret ?_
  refine ⟨.inr rfl, _, rfl, ?_, by simp⟩
  simp [hu, pack]

end Go.Proofs.YtjlamhilnkadcaaGreatDoor.Pay
