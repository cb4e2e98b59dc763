/- bank.Read walked. No statement of the seed is proved here. -/
import Derived.Test.YtjlamhilnkadcaaGreatDoorBkF
namespace Go.Proofs.YtjlamhilnkadcaaGreatDoor.Pay
open Go Go.RowKit
set_option linter.unusedVariables false
set_option linter.unusedSimpArgs false

set_option maxHeartbeats 1000000 in
theorem read_ok (s : List UInt8) (h : s.length ≤ 1000000)
    (hwr : ∀ per l, l.length ≤ 1000000000 → Gives Tryz.prog 5 [.d (encF per l)] (.tup [.d (.str (if rightFB per l = true then textL per l else [])), .d (dI (if rightFB per l = true then 0 else 1))])) :
    Gives Tryz.prog 7 [.d (.str s)] (encR (readR s)) := by
  have hsp := splitF_ok s (by omega)
  have hlen := splL_len s
  have hrr : readR s = (rawR (splL s)).bind fun f => if (rightFB f.1 f.2 && (textL f.1 f.2 == s)) = true then some f else none := rfl
  obtain ⟨X, hX⟩ : ∃ X, splL s = X := ⟨_, rfl⟩
  rw [hX] at hsp hlen hrr
  obtain ⟨x0, hx0⟩ : ∃ x, X.getD 0 [] = x := ⟨_, rfl⟩
  obtain ⟨mid, hmid⟩ : ∃ m, midL X = m := ⟨_, rfl⟩
  have hraw : rawR X = if X.length < 3 ∨ x0.length ≠ 6 then none else if mid.all (fun t => decide (t.length = 27)) = true then some ((atoiP x0.tail).1, mid.map getP) else none := by rw [rawR, hx0, hmid]
  have hmm : ((X.map D.str).drop 1).take (X.length - 2 - 1) = mid.map D.str := by rw [← hmid, midL, List.map_take, List.map_drop]
  have hml : mid.length ≤ 1000001 := by rw [← hmid, midL, List.length_take, List.length_drop]; omega
  obtain ⟨per, hper⟩ : ∃ p, (atoiP x0.tail).1 = p := ⟨_, rfl⟩
  rw [hper] at hraw
  refine Gives.enter tabOk Tryz.func7 rfl (by show 1 ≤ 72; decide) ?_
  simp only [Tryz.f7]
  have H := trivial
  refine zR ?_
  refine WpC.seq ?_
  refine WpC.region ?_
  refine zO 1 ?_
  refine zG call_16 (hsp) ?_
  refine zO 1 ?_
  refine WpO.nil ?_
  refine WpC.seq ?_
  refine WpC.seq ?_
  refine WpC.val 21 (.d (.bool ((decide (X.length < 3)) || !(decide (x0.length = 6))))) ?_ ?_
  ·refine WpC.region ?_
   refine zO 4 ?_
   refine zS 15 (fun g15 => ?_) (fun g15 => ?_)
   ·have g15' := zN g15
    replace H := And.intro g15 H
    refine zO 6 ?_
    refine WpO.nil ?_
    refine ⟨rfl, Gh.only 21 11 ?_ (by first | rfl | simp -implicitDefEqProofs [H]) (by rfl)⟩
    simp -implicitDefEqProofs [H, g15', Bool.or_eq_true] <;> omega
   have g15' := zN g15
   have h3 : ¬ X.length < 3 := by omega
   have hx1 : X[0]? = some x0 := by rw [← hx0, List.getD_eq_getElem?_getD, List.getElem?_eq_getElem (by omega)]; rfl
   have hxp : 0 < X.length := by omega
   have hxg : X[0] = x0 := by rw [List.getElem?_eq_getElem hxp] at hx1; exact Option.some.inj hx1
   replace H := And.intro g15 (And.intro h3 (And.intro hxp (And.intro hxg H)))
   refine zO 6 ?_
   refine WpO.nil ?_
   refine ⟨rfl, Gh.only 21 11 ?_ (by first | rfl | simp -implicitDefEqProofs [H]) (by rfl)⟩
   simp -implicitDefEqProofs [H, g15', Bool.or_eq_true] <;> omega
  refine zC (fun c21 => ?_) (fun c21 => ?_)
  ·have c21' := zN c21
   replace H := And.intro c21 H
   refine zR ?_
   refine WpC.ret ?_
   try simp only [blockQ, seqQ]
   refine zE ?_
   have : readR s = none := by
       rw [hrr, hraw, if_pos (by simpa using c21')]; rfl
   simp [this, encR]
  have c21' := zN c21
  have hc1 : ¬ (X.length < 3 ∨ x0.length ≠ 6) := by simpa using c21'
  have h3 : ¬ X.length < 3 := fun e => hc1 (.inl e)
  have h6 : x0.length = 6 := Decidable.not_not.1 fun e => hc1 (.inr e)
  have hx1 : X[0]? = some x0 := by rw [← hx0, List.getD_eq_getElem?_getD, List.getElem?_eq_getElem (by omega)]; rfl
  rw [if_neg hc1] at hraw
  have hn0 := number_ok x0.tail (by rw [List.length_tail]; omega)
  rw [hper] at hn0
  have hw2 : IntKind.i64.wrap ((X.length : Int) - 2) = ((X.length - 2 : Nat) : Int) := by rw [wrapI (by omega) (by omega)]; omega
  have hmm2 : X.length - 2 - 1 = mid.length := by rw [← hmid, midL, List.length_take, List.length_drop]; omega
  have h12 : 1 ≤ X.length - 2 := by omega
  have hx2 : X.length - 2 ≤ X.length := by omega
  have hx3 : 0 < X.length := by omega
  have hmmT : (((X.map D.str).tail).take (X.length - 2 - 1)) = mid.map D.str := by rw [← List.drop_one]; exact hmm
  have hmin : min (X.length - 2 - 1) (X.length - 1) = mid.length := by omega
  have hxg : X[0] = x0 := by rw [List.getElem?_eq_getElem hx3] at hx1; exact Option.some.inj hx1
  replace H := And.intro c21 (And.intro hxg (And.intro h6 (And.intro h3 (And.intro hw2 (And.intro hmm (And.intro hmmT (And.intro hmin (And.intro h12 (And.intro hx2 (And.intro hx3 H))))))))))
  refine WpC.skip ?_
  refine WpC.seq ?_
  refine WpC.region ?_
  refine zO 4 ?_
  refine zG call_17 (hn0) ?_
  refine zO 3 ?_
  refine WpO.nil ?_
  refine WpC.seq ?_
  refine WpC.gh (Gh.nilCell (id := 1) (off := 1) 51 3 (by rfl) (by rfl) (by simp)) ?_
  simp
  refine zR ?_
  refine WpC.block ?_
  refine WpC.loopK [0, 2, 5] [33, 34, 35] (mid.length) (() : Unit) (fun k _ => [(33, .d (.list 1 (mid.map .str))), (34, .d (dI mid.length)), (35, .d (.int .i64 k))]) (fun k _ => [.cells 24 [.d (dI 0), .d .nil], .cells 24 [.d (dI per), .sl 2 k], .arr 51 3 (((mid.take k).map getP).map Pm.enc)]) (fun k _ => (mid.take k).all (fun t => decide (t.length = 27)) = true) (by simp -implicitDefEqProofs [H] <;> rfl) (Gh.cut' [33, 34, 35, 0, 2, 5] 3 (by simp -implicitDefEqProofs [H]) (by simp -implicitDefEqProofs [H]) rfl (by simp) (by simp) (by simp)) (rfl) ?_
  rintro k ⟨⟩ hk hi
  simp only [List.cons_append, List.nil_append]
  refine zR ?_
  refine WpC.seq (zL (k < mid.length) (fun hlt => ?_) (fun hge => ?_))
  ·refine WpC.skip ?_
   have hkl : k < mid.length := by omega
   obtain ⟨t, ht⟩ : ∃ t, mid[k] = t := ⟨_, rfl⟩
   have hw : IntKind.i64.wrap ((k : Int) + 1) = k + 1 := wrapI (by omega) (by omega)
   have hst := take_all (fun t : List UInt8 => decide (t.length = 27)) hkl
   rw [hi, Bool.true_and, ht] at hst
   have htk : (mid.take (k + 1)).map getP = (mid.take k).map getP ++ [getP t] := by rw [List.take_add_one, List.getElem?_eq_getElem hkl, ht, List.map_append]; rfl
   replace H := And.intro hlt (And.intro hkl (And.intro ht (And.intro hw H)))
   refine WpC.seq ?_
   refine WpC.block ?_
   refine zR ?_
   refine WpC.seq ?_
   refine zR ?_
   refine zC (fun c41 => ?_) (fun c41 => ?_)
   ·have c41' := zN c41
    replace H := And.intro c41 H
    refine zR ?_
    refine WpC.ret ?_
    try simp only [blockQ, seqQ]
    refine zE ?_
    have : readR s = none := by
        rw [hrr, hraw, if_neg]
        · rfl
        · intro e
          have := List.all_eq_true.1 e t (ht ▸ List.getElem_mem hkl)
          have h27 : t.length = 27 := by simpa using this
          omega
    simp [this, encR]
   have c41' := zN c41
   have ht27 : t.length = 27 := by omega
   have ht1 : 0 < t.length := by omega
   obtain ⟨b, hb⟩ : ∃ b, t[0] = b := ⟨_, rfl⟩
   have hgp : getP t = ⟨(b.toNat : Int), (atoiP (t.tail.take 10)).1, (atoiP (t.drop 11)).1⟩ := by rw [getP, List.getD_eq_getElem?_getD, List.getElem?_eq_getElem ht1, hb]; rfl
   have hmk : min k mid.length = k := by omega
   have hk8 : k ≤ 8589934591 := by omega
   replace H := And.intro c41 (And.intro ht27 (And.intro hb (And.intro hmk (And.intro hk8 H))))
   refine WpC.skip ?_
   refine WpC.drawn tabOk (by kernel_rfl) 2 (by simp) ?_
   iterate 2 refine yO 3 ?_
   refine yG call_17 (number_ok (t.tail.take 10) (by rw [List.length_take]; omega)) ?_
   refine yO 2 ?_
   refine yG call_17 (number_ok (t.drop 11) (by rw [List.length_drop]; omega)) ?_
   refine yO 3 ?_
   refine yO 2 ?_
   refine DrO.nil ⟨by kernel_rfl, ?_⟩
   refine zr ?_
   exact ⟨hlt, (), by rw [hst]; simp; omega, Gh.pick [33, 34, 35, 0, 2, 5] [0, 1, 4] (by simp; rfl) (by simp [hw]) (by simp) (by simp) (by simp; rfl) (by simp [htk, hgp]) (by simp)⟩
  refine WpC.exit ?_
  have hkn : k = mid.length := by omega
  subst hkn
  rw [List.take_length] at hi
  try simp only [List.take_length]
  rw [if_pos hi] at hraw
  have hw := hwr per (mid.map getP) (by rw [List.length_map]; omega)
  obtain ⟨W, hW⟩ : ∃ W, (if rightFB per (mid.map getP) = true then textL per (mid.map getP) else []) = W := ⟨_, rfl⟩
  obtain ⟨E, hE⟩ : ∃ E : Int, (if rightFB per (mid.map getP) = true then 0 else 1) = E := ⟨_, rfl⟩
  rw [hW, hE] at hw
  rw [hraw, Option.bind_some] at hrr
  have hrr : readR s = if (rightFB per (mid.map getP) && (textL per (mid.map getP) == s)) = true then some (per, mid.map getP) else none := hrr
  refine WpC.seq ?_
  refine WpC.seq ?_
  refine WpC.region ?_
  refine zO 1 ?_
  refine zB call_5 (WpF.mono hw fun _ _ h => h) ?_
  refine zO 5 ?_
  refine WpO.nil ?_
  refine WpC.seq ?_
  refine WpC.val 69 (.d (.bool ((!(decide (E = 0))) || !(W == s)))) ?_ ?_
  ·refine WpC.region ?_
   refine zO 3 ?_
   refine zS 65 (fun g65 => ?_) (fun g65 => ?_)
   ·have g65' := zN g65
    replace H := And.intro g65 H
    refine zO 4 ?_
    refine WpO.nil ?_
    refine ⟨rfl, Gh.only 69 8 ?_ (by first | rfl | simp -implicitDefEqProofs [H]) (by rfl)⟩
    simp -implicitDefEqProofs [H, g65', Bool.or_eq_true] <;> omega
   have g65' := zN g65
   replace H := And.intro g65 H
   refine zO 4 ?_
   refine WpO.nil ?_
   refine ⟨rfl, Gh.only 69 8 ?_ (by first | rfl | simp -implicitDefEqProofs [H]) (by rfl)⟩
   simp -implicitDefEqProofs [H, g65', Bool.or_eq_true] <;> omega
  refine zC (fun c69 => ?_) (fun c69 => ?_)
  ·have c69' := zN c69
   replace H := And.intro c69 H
   refine zR ?_
   refine WpC.ret ?_
   try simp only [blockQ, seqQ]
   refine zE ?_
   have : readR s = none := by
       rw [hrr, if_neg]
       intro e
       rw [Bool.and_eq_true] at e
       obtain ⟨e1, e2⟩ := e
       rw [if_pos e1] at hE hW
       rw [eq_of_beq e2] at hW
       subst hE; subst hW
       simp at c69
   simp [this, encR]
  have c69' := zN c69
  replace H := And.intro c69 H
  refine WpC.skip ?_
  refine zR ?_
  refine WpC.ret ?_
  try simp only [blockQ, seqQ]
  refine zE ?_
  have : readR s = some (per, mid.map getP) := by
      rw [hrr, if_pos]
      rw [Bool.or_eq_false_iff] at c69
      have h1 : E = 0 := by simpa using c69.1
      have h2 : W = s := by simpa using c69.2
      by_cases e1 : rightFB per (mid.map getP) = true
      · rw [if_pos e1] at hW
        rw [e1, hW, h2]; simp
      · rw [if_neg e1] at hE
        omega
  simp [this, encR]
end Go.Proofs.YtjlamhilnkadcaaGreatDoor.Pay
