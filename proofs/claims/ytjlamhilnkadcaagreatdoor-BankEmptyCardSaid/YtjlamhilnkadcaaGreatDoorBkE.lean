/- bank.Write walked. No statement of the seed is proved here. -/
import Derived.Test.YtjlamhilnkadcaaGreatDoorBkD
namespace Go.Proofs.YtjlamhilnkadcaaGreatDoor.Pay
open Go Go.RowKit
set_option linter.unusedVariables false
set_option linter.unusedSimpArgs false

theorem writeF_ok (per : Int) (l : List Pm) (hr : rightFB per l = true) (hc : Gives Tryz.prog 12 [.d (encF per l)] (.d (.bool (rightFB per l)))) :
    Gives Tryz.prog 5 [.d (encF per l)] (.tup [.d (.str (textL per l)), .d (dI 0)]) := by
  rw [hr] at hc
  simp only [rightFB, Bool.and_eq_true, decide_eq_true_eq] at hr
  obtain ⟨⟨⟨hal, hp0⟩, hp1⟩, hl⟩ := hr
  have hw5 := wideL_len (n := per) (d := 5) (k := 4) rfl (by omega) (by omega)
  have hbl := bodyL_len hal hw5
  have hc5 := wide_ok per 5 (by omega) (by omega) (by omega)
  obtain ⟨s5, hs5⟩ : ∃ s, wideL per 5 = s := ⟨_, rfl⟩
  rw [hs5] at hc5 hw5
  have e1 : ¬ ((9223372036854775807 : Int) < 1 + s5.length) := by omega
  have e2 : ¬ ((9223372036854775807 : Int) < s5.length + 1 + 1) := by omega
  have hws : WpF Tryz.prog 13 [.ref 0 0, .d (.str (72 :: (s5 ++ [10])))] [.cells tBld [.d .nilp, .sl 1 0], .arr 5 1 []]
      fun r S => r = .tup [.d (dI 7), .d .nili] ∧ S = [.cells tBld [.ref 0 0, .sl 2 7], .gone, .arr 5 1 (u8L (72 :: (s5 ++ [10])))] := by
    have h := writeString_ok (p := .d .nilp) (.inl rfl) [] (72 :: (s5 ++ [10])) (by simp; omega)
    have e : (72 :: (s5 ++ [10]) : List UInt8).length = 7 := by simp; omega
    rw [e] at h
    exact h
  have hb0 : bodyL per [] = 72 :: (s5 ++ [10]) := by simp [bodyL, headL, hs5]
  have hs0 : sumA [] = 0 := rfl
  refine Gives.enter tabOk Tryz.func5 rfl (by show 1 ≤ 54; decide) ?_
  simp only [Tryz.f5]
  have H := And.intro e1 (And.intro e2 (And.intro hb0 (And.intro hs0 hw5)))
  refine zR ?_
  refine WpC.seq ?_
  refine WpC.seq ?_
  refine WpC.region ?_
  refine zO 1 ?_
  refine zG call_12 (hc) ?_
  refine zO 1 ?_
  refine WpO.nil ?_
  refine zF ?_
  refine WpC.skip ?_
  refine zR ?_
  refine WpC.seq ?_
  refine WpC.gh (Gh.nilCell (id := 1) (off := 1) 5 1 (by rfl) (by rfl) (by simp)) ?_
  simp
  refine WpC.region ?_
  refine zO 2 ?_
  refine zG call_14 (hc5) ?_
  refine zO 2 ?_
  refine zP [1, 2] call_13 ( hws) ?_
  refine WpO.nil ?_
  refine zR ?_
  refine WpC.seq ?_
  refine zR ?_
  refine WpC.block ?_
  refine WpC.loopK [1, 4, 18, 19] [5, 20] (l.length) (() : Unit) (fun k _ => [(5, .d (dI (sumA (l.take k)))), (20, .d (.int .i64 k))]) (fun k _ => [.cells 24 [.d (dI per), .d (encPm l)], .cells tBld [.ref 1 0, .sl 2 (bodyL per (l.take k)).length], .arr 5 1 (u8L (bodyL per (l.take k)))]) (fun k _ => True) (by simp -implicitDefEqProofs [H] <;> rfl) (Gh.pick [5, 20, 1, 4, 18, 19] [0, 1, 3] (by simp; rfl) (by simp [hs0]) (by simp) (by simp) (by simp; rfl) (by simp [hb0, hw5]) (by simp)) (by simp) ?_
  rintro k ⟨⟩ hk hi
  simp only [List.cons_append, List.nil_append]
  refine zR ?_
  refine WpC.seq (zL (k < l.length) (fun hlt => ?_) (fun hge => ?_))
  ·refine WpC.skip ?_
   have hkl : k < l.length := by omega
   obtain ⟨p, hp⟩ : ∃ p, l[k] = p := ⟨_, rfl⟩
   have hw : IntKind.i64.wrap ((k : Int) + 1) = k + 1 := wrapI (by omega) (by omega)
   have hok := right_at hal hkl
   rw [hp] at hok
   have hll := lineL_len hok
   simp only [okB, Bool.and_eq_true, Bool.or_eq_true, decide_eq_true_eq] at hok
   have hbst := bodyL_step (per := per) hkl
   have hsst := sumA_step hkl
   have hsu := sumA_le hal k (by omega)
   have hbk := hbl k (by omega)
   rw [hp] at hbst hsst
   have hws1 : IntKind.i64.wrap (sumA (l.take k) + p.amt) = sumA (l.take (k + 1)) := by rw [hsst]; exact wrapI (by omega) (by omega)
   obtain ⟨cur, hcur⟩ : ∃ c, bodyL per (l.take k) = c := ⟨_, rfl⟩
   obtain ⟨sm, hsm⟩ : ∃ c, sumA (l.take k) = c := ⟨_, rfl⟩
   have h10 := wideL_len (n := p.num) (d := 10) (k := 9) rfl (by omega) (by omega)
   have h16 := wideL_len (n := p.amt) (d := 16) (k := 15) rfl (by omega) (by omega)
   have hc10 := wide_ok p.num 10 (by omega) (by omega) (by omega)
   have hc16 := wide_ok p.amt 16 (by omega) (by omega) (by omega)
   have hli : lineL p = UInt8.ofNat p.kind.toNat :: (wideL p.num 10 ++ (wideL p.amt 16 ++ [10])) := rfl
   obtain ⟨s10, hs10⟩ : ∃ s, wideL p.num 10 = s := ⟨_, rfl⟩
   obtain ⟨s16, hs16⟩ : ∃ s, wideL p.amt 16 = s := ⟨_, rfl⟩
   rw [hs10] at h10 hc10 hli
   rw [hs16] at h16 hc16 hli
   rw [hcur] at hbst hbk ⊢
   rw [hsm] at hws1 ⊢
   have e3 : ¬ ((9223372036854775807 : Int) < 1 + s10.length) := by omega
   have e4 : ¬ ((9223372036854775807 : Int) < s10.length + 1 + s16.length) := by omega
   have e5 : ¬ ((9223372036854775807 : Int) < s10.length + s16.length + 1 + 1) := by omega
   have hn28 : (bodyL per (l.take (k + 1))).length = cur.length + 28 := by rw [hbst, List.length_append, hll]
   have hw2 := writeString_ok (p := .ref 0 0) (.inr rfl) cur (lineL p) (by rw [hll]; omega)
   rw [← hbst, hll, hli] at hw2
   replace H := And.intro hlt (And.intro hkl (And.intro hp (And.intro hw (And.intro e3 (And.intro e4 (And.intro e5 (And.intro hws1 (And.intro hn28 H))))))))
   refine WpC.seq ?_
   refine WpC.block ?_
   refine zR ?_
   refine WpC.seq ?_
   refine WpC.drawn tabOk (by kernel_rfl) 2 (by simp) ?_
   iterate 2 refine yO 3 ?_
   refine yG call_14 (hc10) ?_
   refine yO 3 ?_
   refine yG call_14 (hc16) ?_
   refine yO 2 ?_
   refine DrO.call [1, 2] (by simp) rfl (by simp -implicitDefEqProofs [H] <;> rfl) (by simp -implicitDefEqProofs [H] <;> rfl) call_13 (by simp) (by simp -implicitDefEqProofs [H]) (passOk_of (by simp; rfl) (by simp)) ( hw2) (by rfl) (by simp; rfl) (by simp [callS]; rfl) (by simp [updS, getO]; rfl) (by simp -implicitDefEqProofs [H] <;> rfl) (by simp [evIds, fids, oids]; rfl) ?_
   refine DrO.nil ⟨by kernel_rfl, ?_⟩
   iterate 2 refine zr ?_
   exact ⟨hlt, (), trivial, Gh.pick [5, 20, 1, 4, 18, 19] [0, 1, 5] (by simp; rfl) (by simp [hws1, hw]) (by simp) (by simp) (by simp; rfl) (by simp [hn28]) (by simp)⟩
  refine WpC.exit ?_
  have hkn : k = l.length := by omega
  subst hkn
  simp only [List.take_length]
  have hbk := hbl l.length (Nat.le_refl _)
  have hsu := sumA_le hal l.length (Nat.le_refl _)
  rw [List.take_length] at hbk hsu
  have h4 := wideL_len (n := l.length) (d := 4) (k := 3) rfl (by omega) (by omega)
  have h20 := wideL_len (n := sumA l) (d := 20) (k := 19) rfl (by omega) (by omega)
  have hc4 := wide_ok l.length 4 (by omega) (by omega) (by omega)
  have hc20 := wide_ok (sumA l) 20 (by omega) (by omega) (by omega)
  have htx : textL per l = bodyL per l ++ 84 :: (wideL l.length 4 ++ (wideL (sumA l) 20 ++ [10])) := rfl
  obtain ⟨s4, hs4⟩ : ∃ s, wideL l.length 4 = s := ⟨_, rfl⟩
  obtain ⟨s20, hs20⟩ : ∃ s, wideL (sumA l) 20 = s := ⟨_, rfl⟩
  obtain ⟨T, hT⟩ : ∃ T, bodyL per l = T := ⟨_, rfl⟩
  rw [hs4] at h4 hc4 htx
  rw [hs20] at h20 hc20 htx
  rw [hT] at hbk htx ⊢
  have hne : T ≠ [] := fun e => by rw [e] at hbk; simp at hbk; omega
  have hst := string_ok (p := .ref 0 0) T hne
  have e6 : ¬ ((9223372036854775807 : Int) < T.length + 1) := by omega
  have e7 : ¬ ((9223372036854775807 : Int) < T.length + 1 + s4.length) := by omega
  have e8 : ¬ ((9223372036854775807 : Int) < T.length + (s4.length + 1) + s20.length) := by omega
  have e9 : ¬ ((9223372036854775807 : Int) < T.length + (s4.length + s20.length + 1) + 1) := by omega
  replace H := And.intro e6 (And.intro e7 (And.intro e8 (And.intro e9 (And.intro htx H))))
  refine WpC.seq ?_
  refine WpC.drawn tabOk (by kernel_rfl) 0 (by simp) ?_
  refine DrO.call [1, 2] (by simp) rfl (by simp -implicitDefEqProofs [H] <;> rfl) (by simp -implicitDefEqProofs [H] <;> rfl) call_15 (by simp) (by simp -implicitDefEqProofs [H]) (passOk_of (by simp; rfl) (by simp)) ( hst) (by rfl) (by simp; rfl) (by simp [callS]; rfl) (by simp [updS, getO]; rfl) (by simp -implicitDefEqProofs [H] <;> rfl) (by simp [evIds, fids, oids]; rfl) ?_
  refine yO 3 ?_
  refine yO 1 ?_
  refine yG call_14 (hc4) ?_
  refine yO 2 ?_
  refine yG call_14 (hc20) ?_
  refine yO 3 ?_
  refine yO 1 ?_
  refine DrO.nil ⟨by kernel_rfl, ?_⟩
  refine WpC.ret ?_
  try simp only [blockQ, seqQ]
  refine zE ?_
  simp [htx]
end Go.Proofs.YtjlamhilnkadcaaGreatDoor.Pay
