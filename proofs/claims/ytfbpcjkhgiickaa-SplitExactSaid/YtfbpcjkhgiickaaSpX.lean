/- Lists compared; what Split gives, as a list. No statement of the seed is proved here. -/
import Derived.Test.YtfbpcjkhgiickaaSpN
namespace Go.Proofs.Ytfbpcjkhgiickaa.Pay
open Go Go.RowKit
set_option linter.unusedVariables false
set_option linter.unusedSimpArgs false
set_option linter.unusedSectionVars false

theorem same_ok (a b : List Int) (h1 : a.length ≤ 1000000) (h2 : b.length ≤ 1000000) : Gives Try.prog 12 [.d (.list 1 (a.map dI)), .d (.list 1 (b.map dI))] (.d (.bool (decide (a = b)))) := by
  refine Gives.enter tabOk Try.func12 rfl (by show 2 ≤ 26; decide) ?_
  simp only [Try.f12]
  refine WpC.seq (WpC.ops tabOk (r := []) (by simp -implicitDefEqProofs <;> rfl) rfl ?_)
  refine WpC.seq ?_
  refine WpC.seq (WpC.ops tabOk (r := []) (by simp -implicitDefEqProofs <;> rfl) rfl ?_)
  refine WpC.condD (¬ (a.length : Int) = b.length) (by simp -implicitDefEqProofs) (fun d10 => ?_) (fun d10 => ?_)
  · refine WpC.seq (WpC.ops tabOk (r := []) (by simp -implicitDefEqProofs [d10] <;> rfl) rfl ?_)
    refine WpC.ret ?_
    try simp only [blockQ, seqQ]
    refine retD_i (by simp -implicitDefEqProofs [d10] <;> rfl) (by simp -implicitDefEqProofs [d10] <;> rfl) ?_
    have : ¬ a = b := fun h => d10 (by rw [h])
    simp [this]
  · have hle : a.length = b.length := by omega
    refine WpC.skip ?_
    refine WpC.seq ?_
    refine WpC.seq (WpC.ops tabOk (r := []) (by simp -implicitDefEqProofs [d10] <;> rfl) rfl ?_)
    refine WpC.block ?_
    refine WpC.loopK [0, 1] [5] (a.length) (() : Unit) (fun k _ => [(5, .d (.int .i64 k))]) (fun k _ => []) (fun k _ => a.take k = b.take k) (by simp -implicitDefEqProofs [d10] <;> rfl) (Gh.cut' [5, 0, 1] 0 (by simp -implicitDefEqProofs [d10]) (by simp -implicitDefEqProofs [d10]) rfl (by simp) (by simp) (by simp)) (by simp) ?_
    rintro k ⟨⟩ hk hi
    simp only [List.cons_append, List.nil_append]
    refine WpC.seq ?_
    refine WpC.seq (WpC.ops tabOk (r := []) (by simp -implicitDefEqProofs [d10] <;> rfl) rfl ?_)
    refine WpC.condD (k < a.length) (by simp -implicitDefEqProofs [d10] <;> omega) (fun hlt => ?_) (fun hge => ?_)
    · refine WpC.skip ?_
      obtain ⟨x, hx⟩ : ∃ x, a[k] = x := ⟨_, rfl⟩
      have hlb : k < b.length := by omega
      obtain ⟨y, hy⟩ : ∃ y, b[k] = y := ⟨_, rfl⟩
      have hw : IntKind.i64.wrap ((k : Int) + 1) = k + 1 := wrapI (by omega) (by omega)
      refine WpC.seq ?_
      refine WpC.block ?_
      refine WpC.seq (WpC.drawn tabOk (by kernel_rfl) 0 (by simp) ?_)
      refine DrO.run (fz := []) 3 (by simp -implicitDefEqProofs [d10, hlt, hx, hw, hlb, hy] <;> first | exact ⟨rfl, rfl, rfl, rfl⟩ | rfl) ?_
      refine DrO.run (fz := []) 3 (by simp -implicitDefEqProofs [d10, hlt, hx, hw, hlb, hy] <;> first | exact ⟨rfl, rfl, rfl, rfl⟩ | rfl) ?_
      refine DrO.run (fz := []) 3 (by simp -implicitDefEqProofs [d10, hlt, hx, hw, hlb, hy] <;> first | exact ⟨rfl, rfl, rfl, rfl⟩ | rfl) ?_
      refine DrO.nil ⟨by kernel_rfl, ?_⟩
      refine WpC.condD (x ≠ y) (by simp -implicitDefEqProofs [d10, hlt, hx, hw, hlb, hy]) (fun d25 => ?_) (fun d25 => ?_)
      · refine WpC.seq (WpC.ops tabOk (r := []) (by simp -implicitDefEqProofs [d10, hlt, hx, hw, hlb, hy, d25] <;> rfl) rfl ?_)
        refine WpC.ret ?_
        try simp only [blockQ, seqQ]
        refine retD_i (by simp -implicitDefEqProofs [d10, hlt, hx, hw, hlb, hy, d25] <;> rfl) (by simp -implicitDefEqProofs [d10, hlt, hx, hw, hlb, hy, d25] <;> rfl) ?_
        have : ¬ a = b := fun h => by subst h; exact d25 (hx.symm.trans hy)
        simp [this]
      · refine WpC.skip ?_
        refine WpC.ops tabOk (r := []) (by simp -implicitDefEqProofs [d10, hlt, hx, hw, hlb, hy, d25] <;> rfl) rfl ?_
        exact ⟨hlt, (), by rw [List.take_add_one, List.take_add_one, List.getElem?_eq_getElem hlt, List.getElem?_eq_getElem hlb, hi, hx, hy, Classical.not_not.1 d25], Gh.cut' [5, 0, 1] 0 (by simp -implicitDefEqProofs [d10, hlt, hx, hw, hlb, hy, d25]) (by simp) rfl (by simp) (by simp) (by simp)⟩
    · refine WpC.exit ?_
      have hkn : k = a.length := by omega
      subst hkn
      rw [List.take_of_length_le (Nat.le_refl _), hle, List.take_of_length_le (Nat.le_refl _)] at hi
      refine WpC.seq (WpC.ops tabOk (r := []) (by simp -implicitDefEqProofs [d10] <;> rfl) rfl ?_)
      refine WpC.ret ?_
      try simp only [blockQ, seqQ]
      refine retD_i (by simp -implicitDefEqProofs [d10] <;> rfl) (by simp -implicitDefEqProofs [d10] <;> rfl) ?_
      simp [hi]
def spS (T : Int) (ws : List Int) : List Int := if spE T ws = 0 then (List.range ws.length).map (splitF T ws) else []
theorem rowF_map (f : Nat → Int) (n : Nat) : rowF f n = ((List.range n).map f).map dI := by simp [rowF]
theorem spR_map (T : Int) (ws : List Int) : spR T ws = (spS T ws).map dI := by
  unfold spR spS
  split
  · exact rowF_map _ _
  · rfl
theorem splitL_ok (T : Int) (ws : List Int) (hT : in64 T) (hws : ∀ x ∈ ws, in64 x) (hlen : ws.length ≤ 1000000) :
    Gives Try.prog 9 [.d (dI T), .d (.list 1 (ws.map dI))] (.tup [.d (.list 1 ((spS T ws).map dI)), .d (dI (spE T ws))]) := by
  rw [← spR_map]; exact split_ok T ws hT hws hlen
end Go.Proofs.Ytfbpcjkhgiickaa.Pay
