/- bank: wide, number. No statement of the seed is proved here. -/
import Derived.Test.YtjlamhilnkadcaaGreatDoorStC
import Derived.Test.YtjlamhilnkadcaaGreatDoorStD
import Derived.Test.YtjlamhilnkadcaaGreatDoorStN
import Derived.Test.YtjlamhilnkadcaaGreatDoorBkA
namespace Go.Proofs.YtjlamhilnkadcaaGreatDoor.Pay
open Go Go.RowKit
set_option linter.unusedVariables false
set_option linter.unusedSimpArgs false

/-- A number's digits, with noughts ahead. -/
def wideL (n : Int) (d : Nat) : List UInt8 := List.replicate (d - (Lib.itoa n).length) 48 ++ Lib.itoa n
theorem repeatL_one (c : Nat) : Lib.repeatL [48] c = List.replicate c 48 := by
  induction c with
  | zero => rfl
  | succ c ih => rw [Lib.repeatL, ih, List.replicate_succ]; rfl
theorem wide_ok (n : Int) (d : Nat) (h0 : -9223372036854775808 ≤ n) (h1 : n ≤ 9223372036854775807) (hd : d ≤ 1000) : Gives Tryz.prog 14 [.d (dI n), .d (dI d)] (.d (.str (wideL n d))) := by
  have hl := itoa_len h0 h1
  obtain ⟨s, hs⟩ : ∃ s, Lib.itoa n = s := ⟨_, rfl⟩
  have hc := itoa_ok n h0 h1
  rw [hs] at hc hl
  have hw : IntKind.i64.wrap ((d : Int) - s.length) = d - s.length := wrapI (by omega) (by omega)
  have hm : max ((d : Int) - s.length) 0 = ((d - s.length : Nat) : Int) := by omega
  have hr := repeat_ok [48] (d - s.length) (by simp; omega) (by omega)
  rw [repeatL_one] at hr
  have hz : ((List.replicate (d - s.length) (48 : UInt8)).length + s.length : Nat) ≤ 2000 := by rw [List.length_replicate]; omega
  have hz2 : ¬ (9223372036854775807 < (((d - s.length : Nat) : Int) + s.length)) := by omega
  refine Gives.enter tabOk Tryz.func14 rfl (by show 2 ≤ 16; decide) ?_
  simp only [Tryz.f14]
  have H := And.intro hw (And.intro hm hz2)
  refine zR ?_
  refine WpC.seq ?_
  refine WpC.region ?_
  refine zO 1 ?_
  refine zG call_27 (hc) ?_
  refine zO 1 ?_
  refine WpO.nil ?_
  refine WpC.seq ?_
  refine WpC.region ?_
  refine zO 5 ?_
  refine zG call_28 (hr) ?_
  refine zO 3 ?_
  refine WpO.nil ?_
  refine WpC.ret ?_
  try simp only [blockQ, seqQ]
  refine zE ?_
  simp [wideL, hs]
/-- The number that is spelt; what is none is what Atoi gives beside its error. -/
theorem number_ok (l : List UInt8) (h : l.length ≤ 281474976710656) : Gives Tryz.prog 17 [.d (.str l)] (.d (dI (atoiP l).1)) := by
  obtain ⟨⟨v, b⟩, hv⟩ : ∃ v, atoiP l = v := ⟨_, rfl⟩
  have hc := atoi_ok l h
  rw [hv] at hc ⊢
  refine Gives.enter tabOk Tryz.func17 rfl (by show 1 ≤ 11; decide) ?_
  simp only [Tryz.f17]
  have H := trivial
  refine zR ?_
  refine WpC.seq ?_
  refine WpC.region ?_
  refine zO 1 ?_
  refine zG call_30 (hc) ?_
  refine zO 5 ?_
  refine WpO.nil ?_
  refine zR ?_
  refine WpC.ret ?_
  try simp only [blockQ, seqQ]
  refine zE ?_
  simp -implicitDefEqProofs [H]
end Go.Proofs.YtjlamhilnkadcaaGreatDoor.Pay
