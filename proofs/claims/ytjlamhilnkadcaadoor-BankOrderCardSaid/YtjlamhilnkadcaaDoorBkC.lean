/- bank: wide, number. No statement of the seed is proved here. -/
import Derived.Test.YtjlamhilnkadcaaDoorStC
import Derived.Test.YtjlamhilnkadcaaDoorBkA
namespace Go.Proofs.YtjlamhilnkadcaaDoor.Pay
open Go Go.RowKit
set_option linter.unusedVariables false
set_option linter.unusedSimpArgs false

/-- A number's digits, with noughts ahead. -/
def wideL (n : Int) (d : Nat) : List UInt8 := List.replicate (d - (Lib.itoa n).length) 48 ++ Lib.itoa n
theorem repeatL_one (c : Nat) : Lib.repeatL [48] c = List.replicate c 48 := by
  induction c with
  | zero => rfl
  | succ c ih => rw [Lib.repeatL, ih, List.replicate_succ]; rfl
theorem decDigits_len (u : Nat) (k : Nat) (h : u < 10 ^ (k + 1)) : (Lib.decDigits u).length ≤ k + 1 := by
  induction k generalizing u with
  | zero => rw [Lib.decDigits, dif_pos (by omega)]; simp
  | succ k ih =>
    rw [Lib.decDigits]
    split
    · simp
    · have := ih (u / 10) (by rw [Nat.pow_succ] at h; omega)
      simp; omega
theorem itoa_len {n : Int} (h0 : -9223372036854775808 ≤ n) (h1 : n ≤ 9223372036854775807) : (Lib.itoa n).length ≤ 20 := by
  unfold Lib.itoa
  split
  · have := decDigits_len n.natAbs 18 (by omega)
    simp; omega
  · have := decDigits_len n.toNat 18 (by omega)
    omega
theorem wide_ok (n : Int) (d : Nat) (h0 : -9223372036854775808 ≤ n) (h1 : n ≤ 9223372036854775807) (hd : d ≤ 1000) : Gives Tryd.prog 17 [.d (dI n), .d (dI d)] (.d (.str (wideL n d))) := by
  have hl := itoa_len h0 h1
  obtain ⟨s, hs⟩ : ∃ s, Lib.itoa n = s := ⟨_, rfl⟩
  have hc := itoa_ok n h0 h1
  rw [hs] at hc hl
  have hw : IntKind.i64.wrap ((d : Int) - s.length) = d - s.length := wrapI (by omega) (by omega)
  have hm : max ((d : Int) - s.length) 0 = ((d - s.length : Nat) : Int) := by omega
  have hr := repeat_ok [48] (d - s.length) (by simp; omega) (by omega)
  rw [repeatL_one] at hr
  have hz : ((List.replicate (d - s.length) (48 : UInt8)).length + s.length : Nat) ≤ 2000 := by rw [List.length_replicate]; omega
  have hz2 : ¬ (9223372036854775807 < (((d - s.length : Nat) : Int) + s.length)) := by omega
  refine Gives.enter tabOk Tryd.func17 rfl (by show 2 ≤ 16; decide) ?_
  simp only [Tryd.f17]
  refine qR (by simp -implicitDefEqProofs [hw, hm, hz2] <;> rfl) ?_
  refine WpC.seq ?_
  refine WpC.region ?_
  refine WpO.run tabOk 1 (by simp -implicitDefEqProofs [hw, hm, hz2] <;> first | exact ⟨rfl, rfl⟩ | rfl) ?_
  refine WpO.data (by simp) rfl (by simp -implicitDefEqProofs [hw, hm, hz2] <;> rfl) (by simp -implicitDefEqProofs [hw, hm, hz2] <;> rfl) (by simp -implicitDefEqProofs [hw, hm, hz2] <;> rfl) call_25 (by simp) (hc) (by rfl) (by simp -implicitDefEqProofs [hw, hm, hz2] <;> rfl) ?_
  refine WpO.run tabOk 1 (by simp -implicitDefEqProofs [hw, hm, hz2] <;> first | exact ⟨rfl, rfl⟩ | rfl) ?_
  refine WpO.nil ?_
  refine WpC.seq ?_
  refine WpC.region ?_
  refine WpO.run tabOk 5 (by simp -implicitDefEqProofs [hw, hm, hz2] <;> first | exact ⟨rfl, rfl⟩ | rfl) ?_
  refine WpO.data (by simp) rfl (by simp -implicitDefEqProofs [hw, hm, hz2] <;> rfl) (by simp -implicitDefEqProofs [hw, hm, hz2] <;> rfl) (by simp -implicitDefEqProofs [hw, hm, hz2] <;> rfl) call_26 (by simp) (hr) (by rfl) (by simp -implicitDefEqProofs [hw, hm, hz2] <;> rfl) ?_
  refine WpO.run tabOk 3 (by simp -implicitDefEqProofs [hw, hm, hz2] <;> first | exact ⟨rfl, rfl⟩ | rfl) ?_
  refine WpO.nil ?_
  refine WpC.ret ?_
  try simp only [blockQ, seqQ]
  refine retD_i (by simp -implicitDefEqProofs [hw, hm, hz2] <;> rfl) (by simp -implicitDefEqProofs [hw, hm, hz2] <;> rfl) ?_
  simp [wideL, hs]
/-- The number that is spelt; what is none is what Atoi gives beside its error. -/
theorem number_ok (l : List UInt8) (h : l.length ≤ 281474976710656) : Gives Tryd.prog 22 [.d (.str l)] (.d (dI (atoiP l).1)) := by
  obtain ⟨⟨v, b⟩, hv⟩ : ∃ v, atoiP l = v := ⟨_, rfl⟩
  have hc := atoi_ok l h
  rw [hv] at hc ⊢
  refine Gives.enter tabOk Tryd.func22 rfl (by show 1 ≤ 11; decide) ?_
  simp only [Tryd.f22]
  refine qR (by simp -implicitDefEqProofs <;> rfl) ?_
  refine WpC.seq ?_
  refine WpC.region ?_
  refine WpO.run tabOk 1 (by simp -implicitDefEqProofs <;> first | exact ⟨rfl, rfl⟩ | rfl) ?_
  refine WpO.data (by simp) rfl (by simp -implicitDefEqProofs <;> rfl) (by simp -implicitDefEqProofs <;> rfl) (by simp -implicitDefEqProofs <;> rfl) call_31 (by simp) (hc) (by rfl) (by simp -implicitDefEqProofs <;> rfl) ?_
  refine WpO.run tabOk 5 (by simp -implicitDefEqProofs <;> first | exact ⟨rfl, rfl⟩ | rfl) ?_
  refine WpO.nil ?_
  refine qR (by simp -implicitDefEqProofs <;> rfl) ?_
  refine WpC.ret ?_
  try simp only [blockQ, seqQ]
  refine retD_i (by simp -implicitDefEqProofs <;> rfl) (by simp -implicitDefEqProofs <;> rfl) ?_
  simp -implicitDefEqProofs
end Go.Proofs.YtjlamhilnkadcaaDoor.Pay
