/- bank.Of of nobody, law BankEmpty gone through, its row. No statement of the seed is proved here. -/
import Derived.Test.YtjlamhilnkadcaaGreatDoorBzM
import Derived.Test.YtjlamhilnkadcaaGreatDoorMpC
import Derived.Test.YtjlamhilnkadcaaGreatDoorLdB
namespace Go.Proofs.YtjlamhilnkadcaaGreatDoor.Pay
open Go Go.RowKit
set_option linter.unusedVariables false
set_option linter.unusedSimpArgs false

theorem len64_ok : Gives Tryz.prog 43 [.d (.int .u64 0)] (.d (dI 0)) := by
  have hw : IntKind.i64.wrap 0 = 0 := by decide
  have hw2 : IntKind.u8.wrap 0 = 0 := by decide
  refine Gives.enter tabOk Tryz.func43 rfl (by show 1 ≤ 25; decide) ?_
  simp only [Tryz.f43]
  have H := And.intro hw hw2
  refine zR ?_
  refine WpC.seq ?_
  refine zR ?_
  refine zF ?_
  refine WpC.skip ?_
  refine WpC.seq ?_
  refine zR ?_
  refine zF ?_
  refine WpC.skip ?_
  refine WpC.seq ?_
  refine zR ?_
  refine zF ?_
  refine WpC.skip ?_
  refine WpC.seq ?_
  refine WpC.region ?_
  refine zO 3 ?_
  refine WpO.step (by simp) (OpOk.val tabOk (x := .d (.int .u8 0)) (by kernel_rfl) (by simp; rfl)) ?_
  refine zO 3 ?_
  refine WpO.nil ?_
  refine WpC.ret ?_
  try simp only [blockQ, seqQ]
  refine zE ?_
  simp -implicitDefEqProofs [H]
theorem len_ok : Gives Tryz.prog 22 [.d (.int .u64 0)] (.d (dI 0)) := by
  refine Gives.enter tabOk Tryz.func22 rfl (by show 1 ≤ 8; decide) ?_
  simp only [Tryz.f22]
  have H := trivial
  refine zR ?_
  refine WpC.seq ?_
  refine zF ?_
  refine WpC.skip ?_
  refine WpC.seq ?_
  refine WpC.region ?_
  refine zO 1 ?_
  refine zG call_43 (len64_ok) ?_
  refine zO 1 ?_
  refine WpO.nil ?_
  refine WpC.ret ?_
  try simp only [blockQ, seqQ]
  refine zE ?_
  simp -implicitDefEqProofs [H]
theorem insert0_ok : Gives Tryz.prog 34 [.d (.list 3 []), .d (dI 0), .d (dI 0), .fn 11 []] (.tup []) := by
  have hw : IntKind.i64.wrap 1 = 1 := by decide
  refine Gives.enter tabOk Tryz.func34 rfl (by show 4 ≤ 53; decide) ?_
  simp only [Tryz.f34]
  have H := hw
  refine zR ?_
  refine WpC.block ?_
  refine WpC.loopM [0, 1, 2, 3] [8] (fun _ => 0) (() : Unit) (fun _ => [(8, .d (dI 1))]) (fun _ => []) (fun _ => True) (by simp -implicitDefEqProofs [H] <;> rfl) (Gh.cut' [8, 0, 1, 2, 3] 0 (by simp -implicitDefEqProofs [H]) (by simp -implicitDefEqProofs [H]) rfl (by simp) (by simp) (by simp)) (by simp) ?_
  rintro ⟨⟩ hi
  simp only [List.cons_append, List.nil_append]
  refine WpC.seq ?_
  refine zR ?_
  refine zF ?_
  refine WpC.exit ?_
  refine ⟨.inl rfl, _, _, (by simp -implicitDefEqProofs [H] <;> rfl), (by simp -implicitDefEqProofs [H] <;> rfl), ?_⟩
  simp -implicitDefEqProofs [H]
theorem pdq0_ok : Gives Tryz.prog 21 [.d (.list 3 []), .d (dI 0), .d (dI 0), .d (dI 0), .fn 11 []] (.tup []) := by
  have hw : IntKind.i64.wrap 0 = 0 := by decide
  refine Gives.enter tabOk Tryz.func21 rfl (by show 5 ≤ 148; decide) ?_
  simp only [Tryz.f21]
  have H := hw
  iterate 2 refine zR ?_
  refine WpC.block ?_
  refine WpC.loopM [0, 4] [1, 2, 3, 10, 11] (fun _ => 0) (() : Unit) (fun _ => [(1, .d (dI 0)), (2, .d (dI 0)), (3, .d (dI 0)), (10, .d (.bool true)), (11, .d (.bool true))]) (fun _ => []) (fun _ => True) (by simp -implicitDefEqProofs [H] <;> rfl) (Gh.cut' [1, 2, 3, 10, 11, 0, 4] 0 (by simp -implicitDefEqProofs [H]) (by simp -implicitDefEqProofs [H]) rfl (by simp) (by simp) (by simp)) (by simp) ?_
  rintro ⟨⟩ hi
  simp only [List.cons_append, List.nil_append]
  refine WpC.block ?_
  refine zR ?_
  refine WpC.seq ?_
  refine zR ?_
  refine zT ?_
  refine WpC.seq ?_
  refine WpC.region ?_
  refine zO 4 ?_
  refine zG call_34 (insert0_ok) ?_
  refine WpO.nil ?_
  refine WpC.ret ?_
  try simp only [blockQ, seqQ]
  refine zE ?_
  simp -implicitDefEqProofs [H]
theorem sort0_ok : Gives Tryz.prog 10 [.d (.list 3 []), .fn 11 []] (.tup []) := by
  have hw : IntKind.u64.wrap 0 = 0 := by decide
  refine Gives.enter tabOk Tryz.func10 rfl (by show 2 ≤ 14; decide) ?_
  simp only [Tryz.f10]
  have H := hw
  refine zR ?_
  refine WpC.region ?_
  refine zO 4 ?_
  refine zG call_22 (len_ok) ?_
  refine zO 1 ?_
  refine zG call_21 (pdq0_ok) ?_
  refine WpO.nil ?_
  refine ⟨.inl rfl, _, _, (by simp -implicitDefEqProofs [H] <;> rfl), (by simp -implicitDefEqProofs [H] <;> rfl), ?_⟩
  simp -implicitDefEqProofs [H]
theorem right0 (per : Int) : rightFB per [] = (decide (22800 ≤ per) && decide (per ≤ 35999)) := by
  simp [rightFB, allB]
theorem of0_yes (per : Int) (h : rightFB per [] = true) : Gives Tryz.prog 4 [.d (.agg [.nil]), .d (.agg [.nil]), .d (dI per)] (.tup [.d (encF per []), .d (dI 0)]) := by
  have hc := rightF_ok per [] (by simp)
  rw [h] at hc
  refine Gives.enter tabOk Tryz.func4 rfl (by show 3 ≤ 116; decide) ?_
  simp only [Tryz.f4]
  have H := trivial
  iterate 3 refine zR ?_
  refine WpC.seq ?_
  refine zR ?_
  refine WpC.block ?_
  refine WpC.loopM [2, 3, 4, 6, 8, 9, 22, 23] [24] (fun _ => 0) (() : Unit) (fun _ => [(24, .d (dI 0))]) (fun _ => [.cells 30 [.d .nil], .cells 33 [.d .nil], .cells 24 [.d (dI 0), .d .nil], .cells 24 [.d (dI per), .d .nil], .map [] []]) (fun _ => True) (by simp -implicitDefEqProofs [H] <;> rfl) (Gh.cut' [24, 2, 3, 4, 6, 8, 9, 22, 23] 5 (by simp -implicitDefEqProofs [H]) (by simp -implicitDefEqProofs [H]) rfl (by simp) (by simp) (by simp)) (by simp) ?_
  rintro ⟨⟩ hi
  simp only [List.cons_append, List.nil_append]
  refine zR ?_
  refine WpC.seq ?_
  refine zF ?_
  refine WpC.exit ?_
  refine WpC.seq ?_
  refine WpC.seq ?_
  refine WpC.region ?_
  refine zO 1 ?_
  refine WpO.gh (Gh.frzMap (id := 4) (ks := []) (es := []) (by simp)) ?_
  refine WpO.step (by simp) (OpOk.range tabOk (id := 4) (ks := []) (es := []) rfl tab_39 rfl (by simp) (by simp) (by simp) (by simp; rfl)) ?_
  refine WpO.nil ?_
  refine WpC.block ?_
  refine WpC.loopM [6, 8, 92] [] (fun _ => 0) (() : Unit) (fun _ => []) (fun _ => [.cells 30 [.d .nil], .cells 33 [.d .nil], .cells 24 [.d (dI 0), .d .nil], .cells 24 [.d (dI per), .d .nil], .fmap [] [], .iter [] [] []]) (fun _ => True) (by simp -implicitDefEqProofs [H] <;> rfl) (Gh.cut' [6, 8, 92] 6 (by simp -implicitDefEqProofs [H]) (by simp -implicitDefEqProofs [H]) rfl (by simp) (by simp) (by simp)) (by simp) ?_
  rintro ⟨⟩ hi
  simp only [List.cons_append, List.nil_append]
  refine WpC.seq ?_
  refine WpC.region ?_
  refine WpO.step (by simp) (OpOk.next0 (id := 5) rfl (by simp) (by simp) (by simp; rfl)) ?_
  refine zO 1 ?_
  refine WpO.nil ?_
  refine WpC.seq ?_
  refine zF ?_
  refine WpC.exit ?_
  refine WpC.seq ?_
  refine WpC.region ?_
  refine zO 2 ?_
  refine WpO.data (by simp) rfl (by simp -implicitDefEqProofs [H] <;> rfl) (by simp -implicitDefEqProofs [H] <;> rfl) (by simp -implicitDefEqProofs [H] <;> rfl) call_10 (by simp) (Gives.le sort0_ok (by simp [leA, FV.le, D.leL])) (by rfl) (by simp -implicitDefEqProofs [H] <;> rfl) ?_
  refine WpO.nil ?_
  refine WpC.seq ?_
  refine WpC.seq ?_
  refine WpC.region ?_
  refine zO 1 ?_
  refine WpO.data (by simp) rfl (by simp -implicitDefEqProofs [H] <;> rfl) (by simp -implicitDefEqProofs [H] <;> rfl) (by simp -implicitDefEqProofs [H] <;> rfl) call_12 (by simp) (Gives.le hc (by simp [leA, FV.le, D.leL])) (by rfl) (by simp -implicitDefEqProofs [H] <;> rfl) ?_
  refine zO 1 ?_
  refine WpO.nil ?_
  refine zF ?_
  refine WpC.skip ?_
  refine zR ?_
  refine WpC.ret ?_
  try simp only [blockQ, seqQ]
  refine zE ?_
  simp -implicitDefEqProofs [H]
theorem of0_no (per : Int) (h : rightFB per [] = false) : Gives Tryz.prog 4 [.d (.agg [.nil]), .d (.agg [.nil]), .d (dI per)] (.tup [.d (encF 0 []), .d (dI 1)]) := by
  have hc := rightF_ok per [] (by simp)
  rw [h] at hc
  refine Gives.enter tabOk Tryz.func4 rfl (by show 3 ≤ 116; decide) ?_
  simp only [Tryz.f4]
  have H := trivial
  iterate 3 refine zR ?_
  refine WpC.seq ?_
  refine zR ?_
  refine WpC.block ?_
  refine WpC.loopM [2, 3, 4, 6, 8, 9, 22, 23] [24] (fun _ => 0) (() : Unit) (fun _ => [(24, .d (dI 0))]) (fun _ => [.cells 30 [.d .nil], .cells 33 [.d .nil], .cells 24 [.d (dI 0), .d .nil], .cells 24 [.d (dI per), .d .nil], .map [] []]) (fun _ => True) (by simp -implicitDefEqProofs [H] <;> rfl) (Gh.cut' [24, 2, 3, 4, 6, 8, 9, 22, 23] 5 (by simp -implicitDefEqProofs [H]) (by simp -implicitDefEqProofs [H]) rfl (by simp) (by simp) (by simp)) (by simp) ?_
  rintro ⟨⟩ hi
  simp only [List.cons_append, List.nil_append]
  refine zR ?_
  refine WpC.seq ?_
  refine zF ?_
  refine WpC.exit ?_
  refine WpC.seq ?_
  refine WpC.seq ?_
  refine WpC.region ?_
  refine zO 1 ?_
  refine WpO.gh (Gh.frzMap (id := 4) (ks := []) (es := []) (by simp)) ?_
  refine WpO.step (by simp) (OpOk.range tabOk (id := 4) (ks := []) (es := []) rfl tab_39 rfl (by simp) (by simp) (by simp) (by simp; rfl)) ?_
  refine WpO.nil ?_
  refine WpC.block ?_
  refine WpC.loopM [6, 8, 92] [] (fun _ => 0) (() : Unit) (fun _ => []) (fun _ => [.cells 30 [.d .nil], .cells 33 [.d .nil], .cells 24 [.d (dI 0), .d .nil], .cells 24 [.d (dI per), .d .nil], .fmap [] [], .iter [] [] []]) (fun _ => True) (by simp -implicitDefEqProofs [H] <;> rfl) (Gh.cut' [6, 8, 92] 6 (by simp -implicitDefEqProofs [H]) (by simp -implicitDefEqProofs [H]) rfl (by simp) (by simp) (by simp)) (by simp) ?_
  rintro ⟨⟩ hi
  simp only [List.cons_append, List.nil_append]
  refine WpC.seq ?_
  refine WpC.region ?_
  refine WpO.step (by simp) (OpOk.next0 (id := 5) rfl (by simp) (by simp) (by simp; rfl)) ?_
  refine zO 1 ?_
  refine WpO.nil ?_
  refine WpC.seq ?_
  refine zF ?_
  refine WpC.exit ?_
  refine WpC.seq ?_
  refine WpC.region ?_
  refine zO 2 ?_
  refine WpO.data (by simp) rfl (by simp -implicitDefEqProofs [H] <;> rfl) (by simp -implicitDefEqProofs [H] <;> rfl) (by simp -implicitDefEqProofs [H] <;> rfl) call_10 (by simp) (Gives.le sort0_ok (by simp [leA, FV.le, D.leL])) (by rfl) (by simp -implicitDefEqProofs [H] <;> rfl) ?_
  refine WpO.nil ?_
  refine WpC.seq ?_
  refine WpC.seq ?_
  refine WpC.region ?_
  refine zO 1 ?_
  refine WpO.data (by simp) rfl (by simp -implicitDefEqProofs [H] <;> rfl) (by simp -implicitDefEqProofs [H] <;> rfl) (by simp -implicitDefEqProofs [H] <;> rfl) call_12 (by simp) (Gives.le hc (by simp [leA, FV.le, D.leL])) (by rfl) (by simp -implicitDefEqProofs [H] <;> rfl) ?_
  refine zO 1 ?_
  refine WpO.nil ?_
  refine zT ?_
  refine zR ?_
  refine WpC.ret ?_
  try simp only [blockQ, seqQ]
  refine zE ?_
  simp -implicitDefEqProofs [H]
theorem text0_len {per : Int} (h0 : 22800 ≤ per) (h1 : per ≤ 35999) : (textL per []).length = 33 := by
  have e1 := wideL_len (n := per) (d := 5) (k := 4) rfl (by omega) (by omega)
  have e2 := wideL_len (n := 0) (d := 4) (k := 3) rfl (by omega) (by omega)
  have e3 := wideL_len (n := 0) (d := 20) (k := 19) rfl (by omega) (by omega)
  simp [textL, bodyL, headL, sumA, e1, e2, e3]
theorem bankEmpty_walk (per : Int) : Gives Tryz.prog 3 [.d (dI per)] (.d (.bool true)) := by
  have haw := awake_ok
  have hw := writeA_ok per [] (by simp)
  by_cases hr : rightFB per [] = true
  · have hrg := hr
    rw [right0, Bool.and_eq_true, decide_eq_true_eq, decide_eq_true_eq] at hrg
    have ho := of0_yes per hr
    rw [wrS, wrE, if_pos hr, if_pos hr] at hw
    have hl := text0_len hrg.1 hrg.2
    have hrd := readA_ok (textL per []) (by omega)
    rw [read_text hr] at hrd
    simp only [encR] at hrd
    obtain ⟨T, hT⟩ : ∃ T, textL per [] = T := ⟨_, rfl⟩
    rw [hT] at hw hl hrd
    refine Gives.enter tabOk Tryz.func3 rfl (by show 1 ≤ 88; decide) ?_
    simp only [Tryz.f3]
    have H := hl
    refine zR ?_
    refine WpC.seq ?_
    refine WpC.region ?_
    refine zO 3 ?_
    refine zG call_4 (ho) ?_
    refine zO 6 ?_
    refine WpO.nil ?_
    refine WpC.seq ?_
    refine WpC.region ?_
    refine zO 2 ?_
    refine WpO.data (by simp) rfl (by simp -implicitDefEqProofs [H] <;> rfl) (by simp -implicitDefEqProofs [H] <;> rfl) (by simp -implicitDefEqProofs [H] <;> rfl) call_5 (by simp) (Gives.le hw (by simp [leA, FV.le, D.leL])) (by rfl) (by simp -implicitDefEqProofs [H] <;> rfl) ?_
    refine zO 5 ?_
    refine WpO.nil ?_
    refine WpC.seq ?_
    refine WpC.seq ?_
    refine WpC.val 27 (.d (.bool (false))) ?_ ?_
    ·refine WpC.region ?_
     refine zO 3 ?_
     refine zS 24 (fun g24 => ?_) (fun g24 => ?_)
     ·have g24' := zN g24
      replace H := And.intro g24 H
      refine zO 3 ?_
      refine WpO.nil ?_
      refine ⟨rfl, Gh.only 27 7 ?_ (by first | rfl | simp -implicitDefEqProofs [H]) (by rfl)⟩
      simp -implicitDefEqProofs [H, g24'] <;> omega
     have g24' := zN g24
     replace H := And.intro g24 H
     refine zO 3 ?_
     refine WpO.nil ?_
     refine ⟨rfl, Gh.only 27 7 ?_ (by first | rfl | simp -implicitDefEqProofs [H]) (by rfl)⟩
     simp -implicitDefEqProofs [H, g24'] <;> omega
    refine zF ?_
    refine WpC.skip ?_
    refine WpC.seq ?_
    refine WpC.region ?_
    refine zO 1 ?_
    refine zG call_7 (hrd) ?_
    refine zO 6 ?_
    refine WpO.nil ?_
    refine WpC.seq ?_
    refine WpC.region ?_
    iterate 3 refine zO 12 ?_
    refine zO 4 ?_
    refine zG call_6 (haw) ?_
    refine zO 2 ?_
    refine WpO.nil ?_
    refine WpC.ret ?_
    try simp only [blockQ, seqQ]
    refine zE ?_
    simp -implicitDefEqProofs [H]
  · have hr' : rightFB per [] = false := by simpa using hr
    have hrg := hr'
    rw [right0, Bool.and_eq_false_iff, decide_eq_false_iff_not, decide_eq_false_iff_not] at hrg
    have ho := of0_no per hr'
    rw [wrS, wrE, if_neg hr, if_neg hr] at hw
    refine Gives.enter tabOk Tryz.func3 rfl (by show 1 ≤ 88; decide) ?_
    simp only [Tryz.f3]
    have H := trivial
    refine zR ?_
    refine WpC.seq ?_
    refine WpC.region ?_
    refine zO 3 ?_
    refine zG call_4 (ho) ?_
    refine zO 6 ?_
    refine WpO.nil ?_
    refine WpC.seq ?_
    refine WpC.region ?_
    refine zO 2 ?_
    refine WpO.data (by simp) rfl (by simp -implicitDefEqProofs [H] <;> rfl) (by simp -implicitDefEqProofs [H] <;> rfl) (by simp -implicitDefEqProofs [H] <;> rfl) call_5 (by simp) (Gives.le hw (by simp [leA, FV.le, D.leL])) (by rfl) (by simp -implicitDefEqProofs [H] <;> rfl) ?_
    refine zO 5 ?_
    refine WpO.nil ?_
    refine WpC.seq ?_
    refine WpC.seq ?_
    refine WpC.val 27 (.d (.bool (true))) ?_ ?_
    ·refine WpC.region ?_
     refine zO 3 ?_
     refine zS 24 (fun g24 => ?_) (fun g24 => ?_)
     ·have g24' := zN g24
      replace H := And.intro g24 H
      refine zO 3 ?_
      refine WpO.nil ?_
      refine ⟨rfl, Gh.only 27 7 ?_ (by first | rfl | simp -implicitDefEqProofs [H]) (by rfl)⟩
      simp -implicitDefEqProofs [H, g24'] <;> omega
     have g24' := zN g24
     replace H := And.intro g24 H
     refine zO 3 ?_
     refine WpO.nil ?_
     refine ⟨rfl, Gh.only 27 7 ?_ (by first | rfl | simp -implicitDefEqProofs [H]) (by rfl)⟩
     simp -implicitDefEqProofs [H, g24'] <;> omega
    refine zT ?_
    refine WpC.seq ?_
    refine WpC.region ?_
    refine zO 11 ?_
    refine zG call_6 (haw) ?_
    refine zO 2 ?_
    refine WpO.nil ?_
    refine WpC.ret ?_
    try simp only [blockQ, seqQ]
    refine zE ?_
    simp -implicitDefEqProofs [H]
theorem bankEmpty_row {w : World} {e0 : List D} {v0 : Value} {i0 : TI} (y0 : HasT tab 8 3 e0) (t0 : some i0 = tab 3) (z0 : DRel w (lt w) (elemD i0 e0) v0) (hG : GOk w (lt w)) :
    Calls Tryz.prog 3 #[v0] w fun e w' => e = .returned (.bool true) ∧ Below w.heap.size w w' := by
  rw [tab_3] at t0; cases t0
  have y1 := y0
  unfold HasT at y1
  rw [tab_3] at y1
  obtain ⟨i, rfl, _, _⟩ := y1
  refine WpF.law (bankEmpty_walk i) (fun r S h => h.1) (vs := [v0]) ?_ hG
  simp only [VRelL, VRel]
  exact ⟨v0, _, rfl, z0, rfl⟩
end Go.Proofs.YtjlamhilnkadcaaGreatDoor.Pay
