/- The bank in one word: Write, Read; files are compared. No statement of the seed is proved here. -/
import Derived.Test.YtjlamhilnkadcaaDoorBkB
import Derived.Test.YtjlamhilnkadcaaDoorBkE
import Derived.Test.YtjlamhilnkadcaaDoorBkG
import Derived.Test.YtjlamhilnkadcaaDoorBkI
import Derived.Test.YtjlamhilnkadcaaDoorBkJ
import Derived.Test.YtjlamhilnkadcaaDoorBkK
namespace Go.Proofs.YtjlamhilnkadcaaDoor.Pay
open Go Go.RowKit
set_option linter.unusedVariables false
set_option linter.unusedSimpArgs false

def wrS (per : Int) (l : List Pm) : List UInt8 := if rightB per l = true then textL per l else []
def wrE (per : Int) (l : List Pm) : Int := if rightB per l = true then 0 else 1
theorem writeA_ok (per : Int) (l : List Pm) (hl : l.length ≤ 9223372036854775807) : Gives Tryd.prog 9 [.d (encF per l)] (.tup [.d (.str (wrS per l)), .d (dI (wrE per l))]) := by
  have hc := right_ok per l hl
  unfold wrS wrE
  by_cases h : rightB per l = true
  · rw [if_pos h, if_pos h]
    exact write_ok per l h hc
  · rw [if_neg h, if_neg h]
    exact write_no per l hl (by simpa using h) hc
theorem eqPm (p q : Pm) : EqT Tryd.prog 55 p.cs q.cs (decide (p = q)) := by
  refine ⟨by kernel_rfl, fun w I vs us h1 h2 => ?_⟩
  simp only [DRelL, DRel, dI, Pm.cs] at h1 h2
  obtain ⟨_, _, rfl, rfl, _, _, rfl, rfl, _, _, rfl, rfl, rfl⟩ := h1
  obtain ⟨_, _, rfl, rfl, _, _, rfl, rfl, _, _, rfl, rfl, rfl⟩ := h2
  have hu := Tryd.underlying55
  have hi := Tryd.underlying3
  have hb := Tryd.underlying5
  have ha : ∀ w, (isAgg 3).run Tryd.prog w = .ok false w := fun w => by simp [isAgg, run_underlying hi]
  have hab : ∀ w, (isAgg 5).run Tryd.prog w = .ok false w := fun w => by simp [isAgg, run_underlying hb]
  unfold Op.equal
  rw [show Op.maxDepth = 9999 + 1 from rfl, run_equalIn_struct w _ _ _ _ (by simp only [Program.fieldsOf, hu]) (by kernel_rfl)]
  have he : ∀ (w : World) (a b : Int), (Op.equalIn 9999 3 (.int .i64 a) (.int .i64 b)).run Tryd.prog w = .ok (decide (a = b)) w := fun w a b => by
    rw [show (9999 : Nat) = 9998 + 1 from rfl]
    unfold Op.equalIn
    simp [run_underlying hi]
  have heb : ∀ (w : World) (a b : Int), (Op.equalIn 9999 5 (.int .u8 a) (.int .u8 b)).run Tryd.prog w = .ok (decide (a = b)) w := fun w a b => by
    rw [show (9999 : Nat) = 9998 + 1 from rfl]
    unfold Op.equalIn
    simp [run_underlying hb]
  obtain ⟨a1, a2, a3⟩ := p
  obtain ⟨b1, b2, b3⟩ := q
  by_cases h1 : a1 = b1 <;> by_cases h2 : a2 = b2 <;> by_cases h3 : a3 = b3 <;> simp [Program.fieldsOf, hu, Op.eqFields, part, ha, he, hab, heb, h1, h2, h3]
theorem readA_ok (s : List UInt8) (h : s.length ≤ 1000000) : Gives Tryd.prog 13 [.d (.str s)] (encR (readR s)) :=
  read_ok s h fun per l hl => writeA_ok per l (by omega)
def sameB (p1 : Int) (l1 : List Pm) (p2 : Int) (l2 : List Pm) : Bool := decide (p1 = p2) && decide (l1 = l2)
theorem same_ok (p1 p2 : Int) (l1 l2 : List Pm) (hl : l1.length ≤ 1000000000) (hl2 : l2.length ≤ 1000000000) : Gives Tryd.prog 15 [.d (encF p1 l1), .d (encF p2 l2)] (.d (.bool (sameB p1 l1 p2 l2))) := by
  refine Gives.enter tabOk Tryd.func15 rfl (by show 2 ≤ 38; decide) ?_
  simp only [Tryd.f15]
  refine qR (by simp -implicitDefEqProofs <;> rfl) ?_
  refine WpC.seq ?_
  refine WpC.seq ?_
  refine WpC.val 19 (.d (.bool ((!decide (p1 = p2)) || !decide ((l1.length : Int) = l2.length)))) ?_ ?_
  · refine WpC.region ?_
    refine WpO.run tabOk 6 (by simp -implicitDefEqProofs <;> first | exact ⟨rfl, rfl⟩ | rfl) ?_
    refine WpO.splitB 11 (by simp -implicitDefEqProofs <;> rfl) (by rfl) (fun g11 => ?_) (fun g11 => ?_)
    · try (exfalso; revert g11; simp; done)
      all_goals
        have g11' := g11; first | simp only [dT, dF] at g11' | try simp at g11'
        refine WpO.run tabOk 8 (by simp -implicitDefEqProofs [g11] <;> first | exact ⟨rfl, rfl⟩ | rfl) ?_
        refine WpO.nil ?_
        refine ⟨rfl, Gh.only 19 15 ?_ (by first | rfl | simp -implicitDefEqProofs [g11]) (by rfl)⟩
        simp -implicitDefEqProofs [g11, g11']
    · try (exfalso; revert g11; simp; done)
      all_goals
        have g11' := g11; first | simp only [dT, dF] at g11' | try simp at g11'
        refine WpO.run tabOk 8 (by simp -implicitDefEqProofs [g11] <;> first | exact ⟨rfl, rfl⟩ | rfl) ?_
        refine WpO.nil ?_
        refine ⟨rfl, Gh.only 19 15 ?_ (by first | rfl | simp -implicitDefEqProofs [g11]) (by rfl)⟩
        simp -implicitDefEqProofs [g11, g11']
  refine WpC.condR (by simp -implicitDefEqProofs <;> rfl) (by rfl) (fun c19 => ?_) (fun c19 => ?_)
  · have c19' := c19; first | simp only [dT, dF] at c19' | try simp at c19'
    refine qR (by simp -implicitDefEqProofs [c19] <;> rfl) ?_
    refine WpC.ret ?_
    try simp only [blockQ, seqQ]
    refine retD_i (by simp -implicitDefEqProofs [c19] <;> rfl) (by simp -implicitDefEqProofs [c19] <;> rfl) ?_
    have : sameB p1 l1 p2 l2 = false := by
        simp only [Bool.or_eq_true, Bool.not_eq_true', decide_eq_false_iff_not] at c19
        simp only [sameB, Bool.and_eq_false_iff, decide_eq_false_iff_not]
        rcases c19 with h | h
        · exact .inl h
        · exact .inr fun e => h (by rw [e])
    simp [this]
  have c19' := c19; first | simp only [dT, dF] at c19' | try simp at c19'
  have c19b := c19
  simp only [Bool.or_eq_false_iff, Bool.not_eq_false', decide_eq_true_eq] at c19b
  obtain ⟨hpe, hle⟩ := c19b
  have hle : l1.length = l2.length := by omega
  refine WpC.skip ?_
  refine WpC.seq ?_
  refine qR (by simp -implicitDefEqProofs [c19] <;> rfl) ?_
  refine WpC.block ?_
  refine WpC.loopK [2, 3] [5] (l1.length) (() : Unit) (fun k _ => [(5, .d (.int .i64 k))]) (fun k _ => [.cells 32 [.d (dI p1), .d (encPm l1)], .cells 32 [.d (dI p2), .d (encPm l2)]]) (fun k _ => l1.take k = l2.take k) (by simp -implicitDefEqProofs [c19] <;> rfl) (Gh.cut' [5, 2, 3] 2 (by simp -implicitDefEqProofs [c19]) (by simp -implicitDefEqProofs [c19]) rfl (by simp) (by simp) (by simp)) (rfl) ?_
  rintro k ⟨⟩ hk hi
  simp only [List.cons_append, List.nil_append]
  refine WpC.seq ?_
  refine qR (by simp -implicitDefEqProofs [c19] <;> rfl) ?_
  refine WpC.condD (k < l1.length) (by simp -implicitDefEqProofs [c19] <;> omega) (fun hlt => ?_) (fun hge => ?_)
  · refine WpC.skip ?_
    have hkl : k < l1.length := by omega
    have hkl2 : k < l2.length := by omega
    obtain ⟨p, hp⟩ : ∃ p, l1[k] = p := ⟨_, rfl⟩
    obtain ⟨q, hq⟩ : ∃ q, l2[k] = q := ⟨_, rfl⟩
    have hw : IntKind.i64.wrap ((k : Int) + 1) = k + 1 := wrapI (by omega) (by omega)
    have H1 := And.intro hlt (And.intro hkl (And.intro hkl2 (And.intro hp (And.intro hq hw))))
    refine WpC.seq ?_
    refine WpC.block ?_
    refine WpC.seq ?_
    refine WpC.drawn tabOk (by kernel_rfl) 0 (by simp) ?_
    refine DrO.run (fz := []) 3 (by simp -implicitDefEqProofs [H1, c19] <;> first | exact ⟨rfl, rfl, rfl, rfl⟩ | rfl) ?_
    refine DrO.run (fz := []) 3 (by simp -implicitDefEqProofs [H1, c19] <;> first | exact ⟨rfl, rfl, rfl, rfl⟩ | rfl) ?_
    refine DrO.run (fz := []) 3 (by simp -implicitDefEqProofs [H1, c19] <;> first | exact ⟨rfl, rfl, rfl, rfl⟩ | rfl) ?_
    refine DrO.run (fz := []) 1 (by simp -implicitDefEqProofs [H1, c19] <;> first | exact ⟨rfl, rfl, rfl, rfl⟩ | rfl) ?_
    refine DrO.eqS true (by simp) rfl (by simp -implicitDefEqProofs [H1, c19] <;> rfl) (by simp -implicitDefEqProofs [H1, c19] <;> rfl) (eqPm p q) (by simp -implicitDefEqProofs [H1, c19] <;> rfl) ?_
    refine DrO.nil ⟨by kernel_rfl, ?_⟩
    refine WpC.condR (by simp -implicitDefEqProofs [H1, c19] <;> rfl) (by rfl) (fun c37 => ?_) (fun c37 => ?_)
    · have c37' := c37; first | simp only [dT, dF] at c37' | try simp at c37'
      refine qR (by simp -implicitDefEqProofs [H1, c19, c37] <;> rfl) ?_
      refine WpC.ret ?_
      try simp only [blockQ, seqQ]
      refine retD_i (by simp -implicitDefEqProofs [H1, c19, c37] <;> rfl) (by simp -implicitDefEqProofs [H1, c19, c37] <;> rfl) ?_
      have : sameB p1 l1 p2 l2 = false := by
          have hpq : p ≠ q := by simpa using c37
          simp only [sameB, Bool.and_eq_false_iff, decide_eq_false_iff_not]
          refine .inr fun e => hpq ?_
          subst e
          rw [← hp, ← hq]
      simp [this]
    have c37' := c37; first | simp only [dT, dF] at c37' | try simp at c37'
    refine WpC.skip ?_
    refine qr (by simp -implicitDefEqProofs [H1, c19, c37] <;> rfl) ?_
    exact ⟨hlt, (), by
  rw [List.take_add_one, List.take_add_one, List.getElem?_eq_getElem hkl, List.getElem?_eq_getElem hkl2, hi, hp, hq]
  have : p = q := by simpa using c37
  rw [this], Gh.cut' [5, 2, 3] 2 (by simp -implicitDefEqProofs [H1, c19, c37, c19', c37']) (by simp -implicitDefEqProofs [H1, c19, c37, c19', c37']) rfl (by simp) (by simp) (by simp)⟩
  refine WpC.exit ?_
  have hkn : k = l1.length := by omega
  subst hkn
  have hfin : sameB p1 l1 p2 l2 = true := by
      have h2 := hi
      rw [List.take_length, hle, List.take_length] at h2
      simp [sameB, hpe, h2]
  refine qR (by simp -implicitDefEqProofs [c19] <;> rfl) ?_
  refine WpC.ret ?_
  try simp only [blockQ, seqQ]
  refine retD_i (by simp -implicitDefEqProofs [c19] <;> rfl) (by simp -implicitDefEqProofs [c19] <;> rfl) ?_
  simp [hfin]
end Go.Proofs.YtjlamhilnkadcaaDoor.Pay
