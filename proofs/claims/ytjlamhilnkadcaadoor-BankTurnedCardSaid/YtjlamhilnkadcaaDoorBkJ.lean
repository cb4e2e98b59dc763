/- The document's text of a file; files are compared. No statement of the seed is proved here. -/
import Derived.Test.YtjlamhilnkadcaaDoorBkH
namespace Go.Proofs.YtjlamhilnkadcaaDoor.Pay
open Go Go.RowKit
set_option linter.unusedVariables false
set_option linter.unusedSimpArgs false

theorem text22_ok (per : Int) (l : List Pm) (hr : rightB per l = true) : Gives Tryd.prog 14 [.d (encF per l)] (.d (.str (textL per l))) := by
  simp only [rightB, Bool.and_eq_true, decide_eq_true_eq] at hr
  obtain ⟨⟨⟨hal, hp0⟩, hp1⟩, hl⟩ := hr
  have hw5 := wideL_len (n := per) (d := 5) (k := 4) rfl (by omega) (by omega)
  have hbl := bodyL_len hal hw5
  obtain ⟨pn, rfl⟩ : ∃ pn : Nat, per = pn := ⟨per.toNat, by omega⟩
  have hc5 := wide22_ok pn 5 (by omega) (by omega)
  obtain ⟨s5, hs5⟩ : ∃ s, wideL pn 5 = s := ⟨_, rfl⟩
  rw [hs5] at hc5 hw5
  have e1 : ¬ ((9223372036854775807 : Int) < 1 + s5.length) := by omega
  have e2 : ¬ ((9223372036854775807 : Int) < s5.length + 1 + 1) := by omega
  have hb0 : bodyL pn [] = 72 :: (s5 ++ [10]) := by simp [bodyL, headL, hs5]
  have hs0 : sumA [] = 0 := rfl
  refine Gives.enter tabOk Tryd.func14 rfl (by show 1 ≤ 54; decide) ?_
  simp only [Tryd.f14]
  have H1 := And.intro e1 (And.intro e2 (And.intro hb0 (And.intro hs0 hw5)))
  refine qR (by simp -implicitDefEqProofs [u8s, H1] <;> rfl) ?_
  refine WpC.seq ?_
  refine WpC.region ?_
  refine WpO.run tabOk 2 (by simp -implicitDefEqProofs [u8s, H1] <;> first | exact ⟨rfl, rfl⟩ | rfl) ?_
  refine WpO.data (by simp) rfl (by simp -implicitDefEqProofs [u8s, H1] <;> rfl) (by simp -implicitDefEqProofs [u8s, H1] <;> rfl) (by simp -implicitDefEqProofs [u8s, H1] <;> rfl) call_23 (by simp) (hc5) (by rfl) (by simp -implicitDefEqProofs [u8s, H1] <;> rfl) ?_
  refine WpO.run tabOk 3 (by simp -implicitDefEqProofs [u8s, H1] <;> first | exact ⟨rfl, rfl⟩ | rfl) ?_
  refine WpO.nil ?_
  refine qR (by simp -implicitDefEqProofs [u8s, H1] <;> rfl) ?_
  refine WpC.seq ?_
  refine qR (by simp -implicitDefEqProofs [u8s, H1] <;> rfl) ?_
  refine WpC.block ?_
  refine WpC.loopK [1] [3, 4, 5] (l.length) (() : Unit) (fun k _ => [(3, .d (.str (bodyL pn (l.take k)))), (4, .d (dI (sumA (l.take k)))), (5, .d (.int .i64 k))]) (fun k _ => [.cells 32 [.d (dI pn), .d (encPm l)]]) (fun k _ => True) (by simp -implicitDefEqProofs [u8s, H1] <;> rfl) (Gh.cut' [3, 4, 5, 1] 1 (by simp -implicitDefEqProofs [u8s, H1]) (by simp -implicitDefEqProofs [u8s, H1]) rfl (by simp) (by simp) (by simp)) (by simp) ?_
  rintro k ⟨⟩ hk hi
  simp only [List.cons_append, List.nil_append]
  refine WpC.seq ?_
  refine qR (by simp -implicitDefEqProofs [u8s, H1] <;> rfl) ?_
  refine WpC.condD (k < l.length) (by simp -implicitDefEqProofs [u8s, H1] <;> omega) (fun hlt => ?_) (fun hge => ?_)
  · refine WpC.skip ?_
    have hkl : k < l.length := by omega
    obtain ⟨p, hp⟩ : ∃ p, l[k] = p := ⟨_, rfl⟩
    have hw : IntKind.i64.wrap ((k : Int) + 1) = k + 1 := wrapI (by omega) (by omega)
    have hok := right_at hal hkl
    rw [hp] at hok
    have hll := lineL_len hok
    simp only [okB, Bool.and_eq_true, Bool.or_eq_true, decide_eq_true_eq] at hok
    have hbst := bodyL_step (per := pn) hkl
    have hsst := sumA_step hkl
    have hsu := sumA_le hal k (by omega)
    have hbk := hbl k (by omega)
    rw [hp] at hbst hsst
    have hws1 : IntKind.i64.wrap (sumA (l.take k) + p.amt) = sumA (l.take (k + 1)) := by rw [hsst]; exact wrapI (by omega) (by omega)
    obtain ⟨cur, hcur⟩ : ∃ c, bodyL pn (l.take k) = c := ⟨_, rfl⟩
    obtain ⟨sm, hsm⟩ : ∃ c, sumA (l.take k) = c := ⟨_, rfl⟩
    have h10 := wideL_len (n := p.num) (d := 10) (k := 9) rfl (by omega) (by omega)
    have h16 := wideL_len (n := p.amt) (d := 16) (k := 15) rfl (by omega) (by omega)
    obtain ⟨kd, nu, am⟩ := p
    simp only at *
    obtain ⟨nn, rfl⟩ : ∃ nn : Nat, nu = nn := ⟨nu.toNat, by omega⟩
    obtain ⟨an, rfl⟩ : ∃ an : Nat, am = an := ⟨am.toNat, by omega⟩
    have hc10 := wide22_ok nn 10 (by omega) (by omega)
    have hc16 := wide22_ok an 16 (by omega) (by omega)
    have hli : lineL ⟨kd, nn, an⟩ = UInt8.ofNat kd.toNat :: (wideL nn 10 ++ (wideL an 16 ++ [10])) := rfl
    obtain ⟨s10, hs10⟩ : ∃ s, wideL nn 10 = s := ⟨_, rfl⟩
    obtain ⟨s16, hs16⟩ : ∃ s, wideL an 16 = s := ⟨_, rfl⟩
    rw [hs10] at h10 hc10 hli
    rw [hs16] at h16 hc16 hli
    rw [hcur] at hbst hbk ⊢
    rw [hsm] at hws1 ⊢
    have e3 : ¬ ((9223372036854775807 : Int) < cur.length + 1) := by omega
    have e4 : ¬ ((9223372036854775807 : Int) < cur.length + 1 + s10.length) := by omega
    have e5 : ¬ ((9223372036854775807 : Int) < cur.length + (s10.length + 1) + s16.length) := by omega
    have e6 : ¬ ((9223372036854775807 : Int) < cur.length + (s10.length + s16.length + 1) + 1) := by omega
    have H2 := And.intro H1 (And.intro hlt (And.intro hkl (And.intro hp (And.intro hw (And.intro e3 (And.intro e4 (And.intro e5 (And.intro e6 hws1))))))))
    refine WpC.seq ?_
    refine WpC.block ?_
    refine qR (by simp -implicitDefEqProofs [u8s, H2] <;> rfl) ?_
    refine WpC.seq ?_
    refine WpC.drawn tabOk (by kernel_rfl) 1 (by simp) ?_
    refine DrO.run (fz := []) 3 (by simp -implicitDefEqProofs [u8s, H2] <;> first | exact ⟨rfl, rfl, rfl, rfl⟩ | rfl) ?_
    refine DrO.run (fz := []) 3 (by simp -implicitDefEqProofs [u8s, H2] <;> first | exact ⟨rfl, rfl, rfl, rfl⟩ | rfl) ?_
    refine DrO.run (fz := []) 2 (by simp -implicitDefEqProofs [u8s, H2] <;> first | exact ⟨rfl, rfl, rfl, rfl⟩ | rfl) ?_
    refine DrO.data (by simp) rfl (by simp -implicitDefEqProofs [u8s, H2] <;> rfl) (by simp -implicitDefEqProofs [u8s, H2] <;> rfl) (by simp -implicitDefEqProofs [u8s, H2] <;> rfl) call_23 (hc10) (by rfl) (by simp -implicitDefEqProofs [u8s, H2] <;> rfl) ?_
    refine DrO.run (fz := []) 3 (by simp -implicitDefEqProofs [u8s, H2] <;> first | exact ⟨rfl, rfl, rfl, rfl⟩ | rfl) ?_
    refine DrO.data (by simp) rfl (by simp -implicitDefEqProofs [u8s, H2] <;> rfl) (by simp -implicitDefEqProofs [u8s, H2] <;> rfl) (by simp -implicitDefEqProofs [u8s, H2] <;> rfl) call_23 (hc16) (by rfl) (by simp -implicitDefEqProofs [u8s, H2] <;> rfl) ?_
    refine DrO.run (fz := []) 3 (by simp -implicitDefEqProofs [u8s, H2] <;> first | exact ⟨rfl, rfl, rfl, rfl⟩ | rfl) ?_
    refine DrO.nil ⟨by kernel_rfl, ?_⟩
    iterate 2 refine qr (by simp -implicitDefEqProofs [u8s, H2] <;> rfl) ?_
    exact ⟨hlt, (), trivial, Gh.cut' [3, 4, 5, 1] 1 (by simp -implicitDefEqProofs [u8s, H2, hws1, hbst, hli]) (by simp -implicitDefEqProofs [u8s, H2, hws1, hbst, hli]) rfl (by simp) (by simp) (by simp)⟩
  refine WpC.exit ?_
  have hkn : k = l.length := by omega
  subst hkn
  try simp only [List.take_length]
  have hbk := hbl l.length (Nat.le_refl _)
  have hsu := sumA_le hal l.length (Nat.le_refl _)
  rw [List.take_length] at hbk hsu
  have h4 := wideL_len (n := l.length) (d := 4) (k := 3) rfl (by omega) (by omega)
  have h20 := wideL_len (n := sumA l) (d := 20) (k := 19) rfl (by omega) (by omega)
  have htx : textL pn l = bodyL pn l ++ 84 :: (wideL l.length 4 ++ (wideL (sumA l) 20 ++ [10])) := rfl
  obtain ⟨sn, hsn⟩ : ∃ sn : Nat, sumA l = sn := ⟨(sumA l).toNat, by omega⟩
  have hc4 := wide22_ok l.length 4 (by omega) (by omega)
  have hc20 := wide22_ok sn 20 (by omega) (by omega)
  rw [hsn] at h20 htx ⊢
  obtain ⟨s4, hs4⟩ : ∃ s, wideL l.length 4 = s := ⟨_, rfl⟩
  obtain ⟨s20, hs20⟩ : ∃ s, wideL sn 20 = s := ⟨_, rfl⟩
  obtain ⟨T, hT⟩ : ∃ T, bodyL pn l = T := ⟨_, rfl⟩
  rw [hs4] at h4 hc4 htx
  rw [hs20] at h20 hc20 htx
  rw [hT] at hbk htx ⊢
  have e6 : ¬ ((9223372036854775807 : Int) < T.length + 1) := by omega
  have e7 : ¬ ((9223372036854775807 : Int) < T.length + 1 + s4.length) := by omega
  have e8 : ¬ ((9223372036854775807 : Int) < T.length + (s4.length + 1) + s20.length) := by omega
  have e9 : ¬ ((9223372036854775807 : Int) < T.length + (s4.length + s20.length + 1) + 1) := by omega
  have H3 := And.intro H1 (And.intro e6 (And.intro e7 (And.intro e8 (And.intro e9 htx))))
  refine WpC.seq ?_
  refine WpC.region ?_
  refine WpO.run tabOk 5 (by simp -implicitDefEqProofs [u8s, H3] <;> first | exact ⟨rfl, rfl⟩ | rfl) ?_
  refine WpO.data (by simp) rfl (by simp -implicitDefEqProofs [u8s, H3] <;> rfl) (by simp -implicitDefEqProofs [u8s, H3] <;> rfl) (by simp -implicitDefEqProofs [u8s, H3] <;> rfl) call_23 (by simp) (hc4) (by rfl) (by simp -implicitDefEqProofs [u8s, H3] <;> rfl) ?_
  refine WpO.run tabOk 2 (by simp -implicitDefEqProofs [u8s, H3] <;> first | exact ⟨rfl, rfl⟩ | rfl) ?_
  refine WpO.data (by simp) rfl (by simp -implicitDefEqProofs [u8s, H3] <;> rfl) (by simp -implicitDefEqProofs [u8s, H3] <;> rfl) (by simp -implicitDefEqProofs [u8s, H3] <;> rfl) call_23 (by simp) (hc20) (by rfl) (by simp -implicitDefEqProofs [u8s, H3] <;> rfl) ?_
  refine WpO.run tabOk 3 (by simp -implicitDefEqProofs [u8s, H3] <;> first | exact ⟨rfl, rfl⟩ | rfl) ?_
  refine WpO.nil ?_
  refine WpC.ret ?_
  try simp only [blockQ, seqQ]
  refine retD_i (by simp -implicitDefEqProofs [u8s, H3] <;> rfl) (by simp -implicitDefEqProofs [u8s, H3] <;> rfl) ?_
  simp -implicitDefEqProofs [u8s, H3]
end Go.Proofs.YtjlamhilnkadcaaDoor.Pay
