/- Law JournalTotals, gone through. -/
import Derived.Test.YtndofikacmhejaaJoF
namespace Go.Proofs.Ytndofikacmhejaa.Pay
open Go Go.Proofs
set_option maxHeartbeats 16000000
set_option linter.unusedSimpArgs false

theorem tot_in : ∀ {l : List Pst} {d c d' c' : Int}, 0 ≤ d → 0 ≤ c → d + c ≤ 9007199254740992 → tot l d c = some (d', c') → 0 ≤ d' ∧ 0 ≤ c' ∧ d' + c' ≤ 9007199254740992
  | [], d, c, d', c', h1, h2, h3, h => by simp [tot] at h; omega
  | p :: r, d, c, d', c', h1, h2, h3, h => by
    unfold tot at h
    split at h
    · cases h
    · split at h
      · exact tot_in (by omega) h2 (by omega) h
      · exact tot_in h1 (by omega) (by omega) h

theorem ord0 : (FloatKind.f64.format.order 0 0 == some .eq) = true := by kernel_rfl
theorem ne_self {d : Int} (h : Small d) : (FloatKind.f64.format.order (fN d) (fN d) != some .eq) = false := by
  rw [bne, f64_eq h h]; simp

theorem jt_ok (l : List Pst) (account centre : Int) (hp : ∀ p ∈ l, Pst.ok p) : WpF Try.prog 3 [.d (encPs l), .d (dI account), .d (dI centre)] [] (fun r S => r = .d (.bool true) ∧ S = []) := by
  refine WpF.enter tabOk Try.func3 rfl (by show 3 ≤ 107; decide) ?_
  simp only [Try.f3]
  refine WpC.seq (WpC.ops tabOk (r := []) (by simp -implicitDefEqProofs [dI] <;> rfl) rfl ?_)
  refine WpC.seq ?_
  refine WpC.seq (WpC.ops tabOk (r := []) (by simp -implicitDefEqProofs [encPs] <;> rfl) rfl ?_)
  refine WpC.condD (200 < (l.length : Int)) (by simp) (fun h0 => ?_) (fun h0 => ?_)
  · refine WpC.seq (WpC.region ?_)
    refine WpO.callD (by simp) rfl (by simp -implicitDefEqProofs <;> rfl) (by simp -implicitDefEqProofs <;> rfl) (by simp -implicitDefEqProofs <;> rfl) call_12 (by simp) (awake_ok) fun r S1 hr => ?_
    obtain ⟨rfl, rfl⟩ := hr
    refine ⟨_, by simp <;> rfl, ?_⟩
    refine WpO.run tabOk 1 (by simp -implicitDefEqProofs <;> exact ⟨rfl, rfl⟩) ?_
    refine WpO.nil ?_
    refine WpC.gh (Gh.cut' [6] 0 (by simp; rfl) rfl rfl rfl rfl (by simp)) (WpC.ret ?_)
    simp
  have hl : l.length ≤ 200 := by omega
  refine WpC.skip ?_
  refine WpC.seq (WpC.region ?_)
  refine WpO.run tabOk 1 (by simp -implicitDefEqProofs <;> exact ⟨rfl, rfl⟩) ?_
  refine WpO.callD (by simp) rfl (by simp -implicitDefEqProofs [encPs] <;> rfl) (by simp -implicitDefEqProofs [encPs] <;> rfl) (by simp -implicitDefEqProofs [encPs] <;> rfl) call_13 (by simp) (totals_ok l (by omega) hp) fun r S1 hr => ?_
  obtain ⟨rfl, rfl⟩ := hr
  obtain ⟨R, hR⟩ : ∃ R, tot l 0 0 = R := ⟨_, rfl⟩
  rw [hR]
  obtain ⟨x, e, d, c, ok, hx, hy, hc⟩ : ∃ x e d c ok, totF R = .tup [.d x, .d (.int .i64 e)] ∧ totR R = .tup [.d (.int .i64 d), .d (.int .i64 c), .d (.bool ok)] ∧
      ((x = .cpx .f64 0 0 ∧ e = 3 ∧ ok = false) ∨ (x = .cpx .f64 (fN d) (fN c) ∧ e = 0 ∧ ok = true ∧ Small d ∧ Small c)) := by
    cases R with
    | none => exact ⟨_, _, _, _, _, rfl, rfl, .inl ⟨rfl, rfl, rfl⟩⟩
    | some v =>
      obtain ⟨d, c⟩ := v
      have := tot_in (by omega) (by omega) (by omega) hR
      exact ⟨_, _, _, _, _, rfl, rfl, .inr ⟨rfl, rfl, rfl, by unfold Small; omega, by unfold Small; omega⟩⟩
  rw [hx]
  refine ⟨_, by simp <;> rfl, ?_⟩
  refine WpO.run tabOk 5 (by simp -implicitDefEqProofs <;> exact ⟨rfl, rfl⟩) ?_
  refine WpO.nil ?_
  refine WpC.seq (WpC.region ?_)
  refine WpO.run tabOk 1 (by simp -implicitDefEqProofs <;> exact ⟨rfl, rfl⟩) ?_
  refine WpO.callD (by simp) rfl (by simp -implicitDefEqProofs [encPs] <;> rfl) (by simp -implicitDefEqProofs [encPs] <;> rfl) (by simp -implicitDefEqProofs [encPs] <;> rfl) call_15 (by simp) (refs_ok l (by omega)) fun r S1 hr => ?_
  obtain ⟨rfl, rfl⟩ := hr
  refine ⟨_, by simp <;> rfl, ?_⟩
  refine WpO.callL (by simp) rfl (by simp -implicitDefEqProofs [encPs, List.take_of_length_le] <;> rfl) (by simp -implicitDefEqProofs [encPs, List.take_of_length_le] <;> rfl) (by simp -implicitDefEqProofs [encPs, List.take_of_length_le] <;> rfl) call_14 (totals1_ok l (by omega) hp) fun r S1 hr => ?_
  obtain ⟨rfl, rfl⟩ := hr
  rw [hR, hy]
  refine ⟨by simp, _, by simp <;> rfl, ?_⟩
  refine WpO.run tabOk 7 (by simp -implicitDefEqProofs <;> exact ⟨rfl, rfl⟩) ?_
  refine WpO.nil ?_
  refine WpC.seq (WpC.seq ?_)
  refine WpC.join ⟨[(0, .d (encPs l)), (1, .d (dI account)), (2, .d (dI centre)), (63, .d (.bool false))], [], 107, 0⟩ ?_ ?_
  · rcases hc with ⟨rfl, rfl, rfl⟩ | ⟨rfl, rfl, rfl, sd, sc⟩
    · refine WpC.ops tabOk (r := []) (by simp -implicitDefEqProofs [ord0] <;> rfl) rfl ?_
      exact ⟨rfl, Gh.cut' [0, 1, 2, 63] 0 (by simp [encPs, dI]) rfl rfl rfl rfl (by simp)⟩
    · refine WpC.ops tabOk (r := []) (by simp -implicitDefEqProofs [nearest_fN, ne_self sd, ne_self sc] <;> rfl) rfl ?_
      exact ⟨rfl, Gh.cut' [0, 1, 2, 63] 0 (by simp [encPs, dI]) rfl rfl rfl rfl (by simp)⟩
  refine WpC.condF (by simp) (WpC.skip ?_)
  refine WpC.seq (WpC.ops tabOk (r := []) (by simp -implicitDefEqProofs <;> rfl) rfl ?_)
  refine WpC.seq ?_
  refine WpC.seq (WpC.ops tabOk (r := []) (by simp -implicitDefEqProofs [encPs] <;> rfl) rfl ?_)
  refine WpC.block (WpC.count l.length (fun k => ⟨[(0, .d (encPs l)), (1, .d (dI account)), (2, .d (dI centre)), (12, .d (dI ((l.take k).foldl (balStep account centre) 0))), (64, .d (encPs l)), (65, .d (dI l.length)), (66, .d (dI k))], [], 107, 0⟩)
    (Gh.cut' [0, 1, 2, 12, 64, 65, 66] 0 (by simp [encPs, dI]) rfl rfl rfl rfl (by simp)) fun k hk => ?_)
  refine WpC.seq (WpC.ops tabOk (r := []) (by simp -implicitDefEqProofs [dI] <;> rfl) rfl ?_)
  refine WpC.seq (WpC.condD (k < l.length) (by simp) (fun hlt => ?_) (fun hge => ?_))
  · refine WpC.skip ?_
    have hst := foldl_take (balStep account centre) 0 hlt
    obtain ⟨p, hpp⟩ : ∃ p, l[k] = p := ⟨_, rfl⟩
    rw [hpp] at hst
    have hw : IntKind.i64.wrap ((k : Int) + 1) = k + 1 := wrapI (by omega) (by omega)
    refine WpC.seq (WpC.block ?_)
    refine WpC.seq (WpC.ops tabOk (r := []) (by simp -implicitDefEqProofs [encPs, hpp, hlt, Pst.enc, dI] <;> rfl) rfl ?_)
    refine WpC.seq ?_
    by_cases g1 : 1125899906842624 < p.amt
    · refine WpC.seq (WpC.ops tabOk (r := []) (by simp -implicitDefEqProofs [g1] <;> rfl) rfl ?_)
      refine WpC.condT (by simp) ?_
      refine WpC.seq (WpC.region ?_)
      refine WpO.callD (by simp) rfl (by simp -implicitDefEqProofs <;> rfl) (by simp -implicitDefEqProofs <;> rfl) (by simp -implicitDefEqProofs <;> rfl) call_12 (by simp) (awake_ok) fun r S1 hr => ?_
      obtain ⟨rfl, rfl⟩ := hr
      refine ⟨_, by simp <;> rfl, ?_⟩
      refine WpO.run tabOk 1 (by simp -implicitDefEqProofs <;> exact ⟨rfl, rfl⟩) ?_
      refine WpO.nil ?_
      refine WpC.gh (Gh.cut' [6] 0 (by simp; rfl) rfl rfl rfl rfl (by simp)) (WpC.ret ?_)
      simp
    by_cases g2 : p.amt < -1125899906842624
    · refine WpC.seq (WpC.ops tabOk (r := []) (by simp -implicitDefEqProofs [g1, g2] <;> rfl) rfl ?_)
      refine WpC.condT (by simp) ?_
      refine WpC.seq (WpC.region ?_)
      refine WpO.callD (by simp) rfl (by simp -implicitDefEqProofs <;> rfl) (by simp -implicitDefEqProofs <;> rfl) (by simp -implicitDefEqProofs <;> rfl) call_12 (by simp) (awake_ok) fun r S1 hr => ?_
      obtain ⟨rfl, rfl⟩ := hr
      refine ⟨_, by simp <;> rfl, ?_⟩
      refine WpO.run tabOk 1 (by simp -implicitDefEqProofs <;> exact ⟨rfl, rfl⟩) ?_
      refine WpO.nil ?_
      refine WpC.gh (Gh.cut' [6] 0 (by simp; rfl) rfl rfl rfl rfl (by simp)) (WpC.ret ?_)
      simp
    refine WpC.seq (WpC.ops tabOk (r := []) (by simp -implicitDefEqProofs [g1, g2] <;> rfl) rfl ?_)
    refine WpC.condF (by simp) (WpC.skip ?_)
    by_cases h1 : p.acc = account
    · by_cases h2 : centre < 0
      · refine WpC.seq (WpC.ops tabOk (r := []) (by simp -implicitDefEqProofs [h1, h2] <;> rfl) rfl ?_)
        refine WpC.condT (by simp) ?_
        refine WpC.ops tabOk (r := []) (by simp -implicitDefEqProofs <;> rfl) rfl ?_
        refine WpC.ops tabOk (r := []) (by simp -implicitDefEqProofs [hw] <;> rfl) rfl ?_
        exact ⟨hlt, Gh.cut' [0, 1, 2, 12, 64, 65, 66] 0 (by simp [hst, balStep, h1, h2, encPs, dI]) rfl rfl rfl rfl (by simp)⟩
      · by_cases h3 : p.ctr = centre
        · refine WpC.seq (WpC.ops tabOk (r := []) (by simp -implicitDefEqProofs [h1, h2, h3] <;> rfl) rfl ?_)
          refine WpC.condT (by simp) ?_
          refine WpC.ops tabOk (r := []) (by simp -implicitDefEqProofs <;> rfl) rfl ?_
          refine WpC.ops tabOk (r := []) (by simp -implicitDefEqProofs [hw] <;> rfl) rfl ?_
          exact ⟨hlt, Gh.cut' [0, 1, 2, 12, 64, 65, 66] 0 (by simp [hst, balStep, h1, h3, encPs, dI]) rfl rfl rfl rfl (by simp)⟩
        · refine WpC.seq (WpC.ops tabOk (r := []) (by simp -implicitDefEqProofs [h1, h2, h3] <;> rfl) rfl ?_)
          refine WpC.condF (by simp [h3]) (WpC.skip ?_)
          refine WpC.ops tabOk (r := []) (by simp -implicitDefEqProofs [hw] <;> rfl) rfl ?_
          exact ⟨hlt, Gh.cut' [0, 1, 2, 12, 64, 65, 66] 0 (by simp [hst, balStep, h1, h2, h3, encPs, dI]) rfl rfl rfl rfl (by simp)⟩
    · refine WpC.seq (WpC.ops tabOk (r := []) (by simp -implicitDefEqProofs [h1] <;> rfl) rfl ?_)
      refine WpC.condF (by simp) (WpC.skip ?_)
      refine WpC.ops tabOk (r := []) (by simp -implicitDefEqProofs [hw] <;> rfl) rfl ?_
      exact ⟨hlt, Gh.cut' [0, 1, 2, 12, 64, 65, 66] 0 (by simp [hst, balStep, h1, encPs, dI]) rfl rfl rfl rfl (by simp)⟩
  · refine WpC.exit ?_
    have hkl : k = l.length := by omega
    subst hkl
    refine WpC.seq (WpC.region ?_)
    refine WpO.run tabOk 3 (by simp -implicitDefEqProofs <;> exact ⟨rfl, rfl⟩) ?_
    refine WpO.callD (by simp) rfl (by simp -implicitDefEqProofs [encPs, dI] <;> rfl) (by simp -implicitDefEqProofs [encPs, dI] <;> rfl) (by simp -implicitDefEqProofs [encPs, dI] <;> rfl) call_16 (by simp) (balance_ok l account centre (by omega)) fun r S1 hr => ?_
    obtain ⟨rfl, rfl⟩ := hr
    refine ⟨_, by simp <;> rfl, ?_⟩
    have hb : balance l account centre = (l.take l.length).foldl (balStep account centre) 0 := by rw [List.take_of_length_le (Nat.le_refl _)]; rfl
    rw [hb]
    refine WpO.run tabOk 3 (by simp -implicitDefEqProofs <;> exact ⟨rfl, rfl⟩) ?_
    refine WpO.callD (by simp) rfl (by simp -implicitDefEqProofs <;> rfl) (by simp -implicitDefEqProofs <;> rfl) (by simp -implicitDefEqProofs <;> rfl) call_12 (by simp) (awake_ok) fun r S1 hr => ?_
    obtain ⟨rfl, rfl⟩ := hr
    refine ⟨_, by simp <;> rfl, ?_⟩
    refine WpO.run tabOk 2 (by simp -implicitDefEqProofs <;> exact ⟨rfl, rfl⟩) ?_
    refine WpO.nil ?_
    refine WpC.gh (Gh.cut' [6] 0 (by simp; rfl) rfl rfl rfl rfl (by simp)) (WpC.ret ?_)
    simp
end Go.Proofs.Ytndofikacmhejaa.Pay
