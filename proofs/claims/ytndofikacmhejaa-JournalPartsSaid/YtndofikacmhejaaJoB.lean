/- What journal's functions give: debits and credits as floats; postings as the document's. No statement of the seed is proved here. -/
import Derived.Test.YtndofikacmhejaaJoA
import Derived.Test.YtndofikacmhejaaPayZ
namespace Go.Proofs.Ytndofikacmhejaa.Pay
open Go Go.Proofs
set_option maxHeartbeats 4000000
set_option linter.unusedSimpArgs false

theorem nearest_fN (n : Int) : FloatKind.f64.nearest n = fN n := rfl
theorem f64_add0 {a : Int} (ha : Small a) : FloatKind.f64.format.add (fN a) 0 = some (fN a) := by
  have := f64_add (a := a) (b := 0) ha (by unfold Small; omega) (by rw [Int.add_zero]; exact ha)
  rwa [fN_zero, Int.add_zero] at this

def totF : Option (Int × Int) → FV
  | none => .tup [.d (.cpx .f64 0 0), .d (.int .i64 3)]
  | some (d, c) => .tup [.d (.cpx .f64 (fN d) (fN c)), .d (.int .i64 0)]

theorem totals_ok (l : List Pst) (hl : l.length ≤ 1000000000) (hp : ∀ p ∈ l, Pst.ok p) : WpF Try.prog 13 [.d (encPs l)] [] (fun r S => r = totF (tot l 0 0) ∧ S = []) := by
  obtain ⟨R, hR⟩ : ∃ R, tot l 0 0 = R := ⟨_, rfl⟩
  rw [hR]
  refine WpF.enter tabOk Try.func13 rfl (by show 1 ≤ 48; decide) ?_
  simp only [Try.f13]
  refine WpC.seq (WpC.ops tabOk (r := []) (by simp -implicitDefEqProofs <;> rfl) rfl ?_)
  refine WpC.seq (WpC.ops tabOk (r := []) (by simp -implicitDefEqProofs <;> rfl) rfl ?_)
  refine WpC.seq (WpC.ops tabOk (r := []) (by simp -implicitDefEqProofs <;> rfl) rfl ?_)
  refine WpC.seq ?_
  refine WpC.seq (WpC.ops tabOk (r := []) (by simp -implicitDefEqProofs [encPs] <;> rfl) rfl ?_)
  refine WpC.block (WpC.countP l.length (fun k s => ∃ d c, s = ⟨[(4, .d (.cpx .f64 (fN d) (fN c))), (5, .d (.int .i64 (9007199254740992 - d - c))), (9, .d (encPs l)), (10, .d (.int .i64 l.length)), (11, .d (.int .i64 k))], [], 48, 0⟩ ∧ 0 ≤ d ∧ 0 ≤ c ∧ d + c ≤ 9007199254740992 ∧ tot (l.drop k) d c = R)
    ⟨_, Gh.cut' [4, 5, 9, 10, 11] 0 (by simp; rfl) rfl rfl rfl rfl (by simp), 0, 0, by simp [encPs, fN_zero], by simp, by simp, by simp, by simpa using hR⟩ fun k s hk ⟨d, c, hs, hd, hc, hdc, ht⟩ => ?_)
  subst hs
  refine WpC.seq (WpC.ops tabOk (r := []) (by simp -implicitDefEqProofs <;> rfl) rfl ?_)
  refine WpC.seq (WpC.condD (k < l.length) (by simp) (fun hlt => ?_) (fun hge => ?_))
  · refine WpC.skip ?_
    rw [drop_cons hlt] at ht
    have hpk := hp l[k] (List.getElem_mem hlt)
    obtain ⟨p, hpp⟩ : ∃ p, l[k] = p := ⟨_, rfl⟩
    rw [hpp] at ht hpk
    obtain ⟨hp1, hp2, hp3⟩ := hpk
    have hp4 := hp3
    unfold inI at hp4
    have hw : IntKind.i64.wrap ((k : Int) + 1) = k + 1 := wrapI (by omega) (by omega)
    refine WpC.seq (WpC.block ?_)
    refine WpC.seq (WpC.ops tabOk (r := []) (by simp -implicitDefEqProofs [encPs, hpp, hlt, Pst.enc] <;> rfl) rfl ?_)
    unfold tot at ht
    by_cases h1 : -9223372036854775807 ≤ p.amt
    · have hneg : IntKind.i64.wrap (- p.amt) = - p.amt := wrapI (by omega) (by omega)
      have hmx : (if p.amt < -p.amt then -p.amt else p.amt) = ((p.amt.natAbs : Nat) : Int) := by split <;> omega
      obtain ⟨n, hn⟩ : ∃ n : Int, ((p.amt.natAbs : Nat) : Int) = n := ⟨_, rfl⟩
      rw [hn] at hmx ht
      have hn0 : 0 ≤ n := by omega
      refine WpC.seq (WpC.ops tabOk (r := []) (by simp -implicitDefEqProofs [hneg, hmx] <;> rfl) rfl ?_)
      refine WpC.seq (WpC.seq (WpC.region ?_))
      refine WpO.run tabOk 2 (by simp -implicitDefEqProofs <;> exact ⟨rfl, rfl⟩) ?_
      refine WpO.callD (by simp) rfl (by simp -implicitDefEqProofs <;> rfl) (by simp -implicitDefEqProofs <;> rfl) (by simp -implicitDefEqProofs <;> rfl) call_30 (by simp) (right_ok p.amt) fun r S1 hr => ?_
      obtain ⟨rfl, rfl⟩ := hr
      refine ⟨_, by simp <;> rfl, ?_⟩
      refine WpO.run tabOk 6 (by simp -implicitDefEqProofs [h1] <;> exact ⟨rfl, rfl⟩) ?_
      refine WpO.nil ?_
      refine WpC.condD (9007199254740992 - d - c < n) (by simp) (fun h3 => ?_) (fun h3 => ?_)
      · refine WpC.seq (WpC.ops tabOk (r := []) (by simp -implicitDefEqProofs <;> rfl) rfl ?_)
        refine WpC.gh (Gh.cut' [2, 3] 0 (by simp; rfl) rfl rfl rfl rfl (by simp)) (WpC.ret ?_)
        rw [if_pos (.inr h3)] at ht
        simp [← ht, totF]
      refine WpC.skip ?_
      have hw1 : IntKind.i64.wrap (9007199254740992 - d - c - n) = 9007199254740992 - d - c - n := wrapI (by omega) (by omega)
      refine WpC.seq (WpC.ops tabOk (r := []) (by simp -implicitDefEqProofs [hw1] <;> rfl) rfl ?_)
      refine WpC.seq ?_
      refine WpC.seq (WpC.ops tabOk (r := []) (by simp -implicitDefEqProofs <;> rfl) rfl ?_)
      have sd : Small d := by unfold Small; omega
      have sc : Small c := by unfold Small; omega
      have sn : Small n := by unfold Small; omega
      refine WpC.condD (0 < p.amt) (by simp) (fun h4 => ?_) (fun h4 => ?_)
      · rw [if_neg (by omega), if_pos h4] at ht
        refine WpC.seq (WpC.ops tabOk (r := []) (by simp -implicitDefEqProofs [nearest_fN, f64_add sd sn (by unfold Small; omega), f64_add0 sc] <;> rfl) rfl ?_)
        refine WpC.exit ?_
        refine WpC.ops tabOk (r := []) (by simp -implicitDefEqProofs [hw] <;> rfl) rfl ?_
        exact ⟨hlt, _, Gh.cut' [4, 5, 9, 10, 11] 0 (by simp; rfl) rfl rfl rfl rfl (by simp), d + n, c, by simp [encPs]; omega, by omega, by omega, by omega, ht⟩
      · refine WpC.skip ?_
        rw [if_neg (by omega), if_neg h4] at ht
        refine WpC.ops tabOk (r := []) (by simp -implicitDefEqProofs [nearest_fN, f64_add sc sn (by unfold Small; omega), f64_add0 sd] <;> rfl) rfl ?_
        refine WpC.ops tabOk (r := []) (by simp -implicitDefEqProofs [hw] <;> rfl) rfl ?_
        exact ⟨hlt, _, Gh.cut' [4, 5, 9, 10, 11] 0 (by simp; rfl) rfl rfl rfl rfl (by simp), d, c + n, by simp [encPs]; omega, by omega, by omega, by omega, ht⟩
    · have hm : p.amt = -9223372036854775808 := by omega
      have hw0 : IntKind.i64.wrap 9223372036854775808 = -9223372036854775808 := by decide
      refine WpC.seq (WpC.ops tabOk (r := []) (by simp -implicitDefEqProofs [hm, hw0] <;> rfl) rfl ?_)
      refine WpC.seq (WpC.seq (WpC.region ?_))
      refine WpO.run tabOk 2 (by simp -implicitDefEqProofs <;> exact ⟨rfl, rfl⟩) ?_
      refine WpO.callD (by simp) rfl (by simp -implicitDefEqProofs <;> rfl) (by simp -implicitDefEqProofs <;> rfl) (by simp -implicitDefEqProofs <;> rfl) call_30 (by simp) (right_ok (-9223372036854775808)) fun r S1 hr => ?_
      obtain ⟨rfl, rfl⟩ := hr
      refine ⟨_, by simp <;> rfl, ?_⟩
      refine WpO.run tabOk 6 (by simp -implicitDefEqProofs <;> exact ⟨rfl, rfl⟩) ?_
      refine WpO.nil ?_
      refine WpC.condT (by simp) ?_
      refine WpC.seq (WpC.ops tabOk (r := []) (by simp -implicitDefEqProofs <;> rfl) rfl ?_)
      refine WpC.gh (Gh.cut' [2, 3] 0 (by simp; rfl) rfl rfl rfl rfl (by simp)) (WpC.ret ?_)
      rw [if_pos (.inl (by omega))] at ht
      simp [← ht, totF]
  · refine WpC.exit ?_
    refine WpC.seq (WpC.ops tabOk (r := []) (by simp -implicitDefEqProofs <;> rfl) rfl ?_)
    refine WpC.ret ?_
    have hkl : k = l.length := by omega
    subst hkl
    simp [tot] at ht
    simp [← ht, totF]

/-- Postings as the document's. -/
theorem refs_ok (l : List Pst) (hl : l.length ≤ 1000000000) : WpF Try.prog 15 [.d (encPs l)] [] (fun r S => r = .sl 0 l.length ∧ S = [.arr 94 3 (l.map Pst.enc)]) := by
  refine WpF.enter tabOk Try.func15 rfl (by show 1 ≤ 18; decide) ?_
  simp only [Try.f15]
  refine WpC.seq (WpC.ops tabOk (r := []) (by simp -implicitDefEqProofs <;> rfl) rfl ?_)
  refine WpC.seq (WpC.ops tabOk (r := []) (by simp -implicitDefEqProofs <;> rfl) rfl ?_)
  refine WpC.seq ?_
  refine WpC.seq (WpC.ops tabOk (r := []) (by simp -implicitDefEqProofs [encPs] <;> rfl) rfl ?_)
  refine WpC.gh (Gh.nilArr 94 3 (t := 3) (by simp) (by simp)) ?_
  refine WpC.block (WpC.count l.length (fun k => ⟨[(3, .sl 0 k), (6, .d (encPs l)), (7, .d (.int .i64 l.length)), (8, .d (.int .i64 k))], [.arr 94 3 ((l.take k).map Pst.enc)], 18, 0⟩)
    (Gh.cut' [3, 6, 7, 8] 1 (by simp [encPs]) (by simp) rfl rfl rfl (by simp)) fun k hk => ?_)
  refine WpC.seq (WpC.ops tabOk (r := []) (by simp -implicitDefEqProofs <;> rfl) rfl ?_)
  refine WpC.seq (WpC.condD (k < l.length) (by simp) (fun hlt => ?_) (fun hge => ?_))
  · refine WpC.skip ?_
    have hst := map_take Pst.enc hlt
    obtain ⟨p, hpp⟩ : ∃ p, l[k] = p := ⟨_, rfl⟩
    rw [hpp] at hst
    have hw : IntKind.i64.wrap ((k : Int) + 1) = k + 1 := wrapI (by omega) (by omega)
    refine WpC.seq (WpC.block ?_)
    refine WpC.seq (WpC.ops tabOk (r := []) (by simp -implicitDefEqProofs [encPs, hpp, hlt, Pst.enc] <;> rfl) rfl ?_)
    refine WpC.ops tabOk (r := []) (by simp -implicitDefEqProofs [hk, (show k ≤ 8589934591 by omega)] <;> rfl) rfl ?_
    refine WpC.ops tabOk (r := []) (by simp -implicitDefEqProofs [hw] <;> rfl) rfl ?_
    exact ⟨hlt, Gh.pick [3, 6, 7, 8] [3] (by simp; rfl) (by simp [encPs]) (by simp) (by simp) (by simp; rfl) (by rw [hst]; simp [Pst.enc, List.take_take]) (by simp)⟩
  · refine WpC.exit ?_
    refine WpC.seq (WpC.ops tabOk (r := []) (by simp -implicitDefEqProofs <;> rfl) rfl ?_)
    refine WpC.ret ?_
    have hkl : k = l.length := by omega
    subst hkl
    simp [List.take_of_length_le]
end Go.Proofs.Ytndofikacmhejaa.Pay
