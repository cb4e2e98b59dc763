/- Law JournalSides, gone through. -/
import Derived.Test.YtndofikacmhejaaJoH
namespace Go.Proofs.Ytndofikacmhejaa.Pay
open Go Go.Proofs Go.RowKit
set_option maxHeartbeats 16000000
set_option linter.unusedSimpArgs false
set_option linter.unusedVariables false

theorem tot_snoc (p : Pst) : ∀ (xs : List Pst) (d c : Int), tot (xs ++ [p]) d c = (tot xs d c).bind fun v => tot [p] v.1 v.2
  | [], d, c => by simp [tot]
  | x :: xs, d, c => by
    simp only [List.cons_append]
    rw [tot, tot]
    split
    · rfl
    · split
      · exact tot_snoc p xs _ _
      · exact tot_snoc p xs _ _

theorem tmodM (a : Int) : -1099511627776 < a.tmod 1099511627776 ∧ a.tmod 1099511627776 < 1099511627776 :=
  ⟨Int.lt_tmod_of_pos a (by decide), Int.tmod_lt_of_pos a (by decide)⟩

theorem tot_one {n d c : Int} (hn : n.natAbs ≤ 1099511627776) (hd : 0 ≤ d) (hc : 0 ≤ c) (h : d + c + 1099511627776 ≤ 9007199254740992) (a b : Int) :
    tot [⟨a, b, n⟩] d c = if 0 < n then some (d + n.natAbs, c) else some (d, c + n.natAbs) := by
  unfold tot
  simp only
  rw [if_neg (by omega)]
  simp [tot]

theorem eq_self {d : Int} (h : Small d) : (FloatKind.f64.format.order (fN d) (fN d) == some .eq) = true := by
  rw [f64_eq h h]; simp

theorem js_ok (l : List Pst) (hp : ∀ p ∈ l, Pst.ok p) : WpF Try.prog 6 [.d (encPs l)] [] (fun r S => r = .d (.bool true) ∧ S = []) := by
  refine WpF.enter tabOk Try.func6 rfl (by show 1 ≤ 84; decide) ?_
  simp only [Try.f6]
  refine WpC.seq (WpC.ops tabOk (r := []) (by simp -implicitDefEqProofs <;> rfl) rfl ?_)
  refine WpC.seq ?_
  refine WpC.seq (WpC.ops tabOk (r := []) (by simp -implicitDefEqProofs [encPs] <;> rfl) rfl ?_)
  refine WpC.condD (100 < (l.length : Int)) (by simp) (fun h0 => ?_) (fun h0 => ?_)
  · refine WpC.seq (WpC.region ?_)
    refine WpO.callD (by simp) rfl (by simp -implicitDefEqProofs <;> rfl) (by simp -implicitDefEqProofs <;> rfl) (by simp -implicitDefEqProofs <;> rfl) call_12 (by simp) (awake_ok) fun r S1 hr => ?_
    obtain ⟨rfl, rfl⟩ := hr
    refine ⟨_, by simp <;> rfl, ?_⟩
    refine WpO.run tabOk 1 (by simp -implicitDefEqProofs <;> exact ⟨rfl, rfl⟩) ?_
    refine WpO.nil ?_
    refine WpC.gh (Gh.cut' [2] 0 (by simp; rfl) rfl rfl rfl rfl (by simp)) (WpC.ret ?_)
    simp
  have hl : l.length ≤ 100 := by omega
  refine WpC.skip ?_
  refine WpC.seq (WpC.ops tabOk (r := []) (by simp -implicitDefEqProofs <;> rfl) rfl ?_)
  refine WpC.seq (WpC.ops tabOk (r := []) (by simp -implicitDefEqProofs <;> rfl) rfl ?_)
  refine WpC.seq ?_
  refine WpC.seq (WpC.ops tabOk (r := []) (by simp -implicitDefEqProofs [encPs] <;> rfl) rfl ?_)
  refine WpC.gh (Gh.nilArr 34 3 (t := 3) (by simp) (by simp)) ?_
  refine WpC.gh (Gh.nilArr 34 3 (t := 4) (by simp) (by simp)) ?_
  obtain ⟨X, hX⟩ : ∃ X : Nat → List Pst, X = fun k => (l.take k).map fun p => ⟨0, 0, p.amt.tmod 1099511627776⟩ := ⟨_, rfl⟩
  obtain ⟨Y, hY⟩ : ∃ Y : Nat → List Pst, Y = fun k => (l.take k).map fun p => ⟨0, 0, -(p.amt.tmod 1099511627776)⟩ := ⟨_, rfl⟩
  have X0 : X 0 = [] := by rw [hX]; rfl
  have Y0 : Y 0 = [] := by rw [hY]; rfl
  have Xl : ∀ k, k ≤ l.length → (X k).length = k := fun k hk => by rw [hX]; simp; omega
  have Yl : ∀ k, k ≤ l.length → (Y k).length = k := fun k hk => by rw [hY]; simp; omega
  have XS : ∀ k (h : k < l.length), X (k + 1) = X k ++ [⟨0, 0, l[k].amt.tmod 1099511627776⟩] := fun k h => by rw [hX]; simp only [map_take _ h]
  have YS : ∀ k (h : k < l.length), Y (k + 1) = Y k ++ [⟨0, 0, -(l[k].amt.tmod 1099511627776)⟩] := fun k h => by rw [hY]; simp only [map_take _ h]
  refine WpC.block (WpC.countP l.length (fun k s => ∃ d c, s = ⟨[(3, .sl 0 k), (4, .sl 1 k), (5, .d (dI (d - c))), (17, .d (encPs l)), (18, .d (dI l.length)), (19, .d (dI k))], [.arr 34 3 ((X k).map Pst.enc), .arr 34 3 ((Y k).map Pst.enc)], 84, 0⟩ ∧
      0 ≤ d ∧ 0 ≤ c ∧ d + c ≤ k * 1099511627776 ∧ tot (X k) 0 0 = some (d, c) ∧ tot (Y k) 0 0 = some (c, d))
    ⟨_, Gh.cut' [3, 4, 5, 17, 18, 19] 2 (by simp; rfl) (by simp; rfl) rfl rfl (by simp) (by simp), 0, 0, by simp [encPs, dI, X0, Y0], by simp, by simp, by simp, by simp [X0, tot], by simp [Y0, tot]⟩ fun k s hk ⟨d, c, hs, hd, hc, hdc, tx, ty⟩ => ?_)
  subst hs
  refine WpC.seq (WpC.ops tabOk (r := []) (by simp -implicitDefEqProofs [dI] <;> rfl) rfl ?_)
  refine WpC.seq (WpC.condD (k < l.length) (by simp) (fun hlt => ?_) (fun hge => ?_))
  · refine WpC.skip ?_
    have xs := XS k hlt
    have ys := YS k hlt
    have xl := Xl k hk
    have yl := Yl k hk
    obtain ⟨p, hpp⟩ : ∃ p, l[k] = p := ⟨_, rfl⟩
    rw [hpp] at xs ys
    have hm := tmodM p.amt
    obtain ⟨n, hn⟩ : ∃ n, p.amt.tmod 1099511627776 = n := ⟨_, rfl⟩
    rw [hn] at xs ys hm
    have xt : List.take k ((X k).map Pst.enc) = (X k).map Pst.enc := List.take_of_length_le (by simp [xl])
    have yt : List.take k ((Y k).map Pst.enc) = (Y k).map Pst.enc := List.take_of_length_le (by simp [yl])
    have hw : IntKind.i64.wrap ((k : Int) + 1) = k + 1 := wrapI (by omega) (by omega)
    have hw1 : IntKind.i64.wrap (d - c + n) = d - c + n := wrapI (by omega) (by omega)
    have hw2 : IntKind.i64.wrap (-n) = -n := wrapI (by omega) (by omega)
    refine WpC.seq (WpC.block ?_)
    refine WpC.seq (WpC.ops tabOk (r := []) (by simp -implicitDefEqProofs [encPs, hpp, hlt, Pst.enc] <;> rfl) rfl ?_)
    refine WpC.seq (WpC.ops tabOk (r := []) (by simp -implicitDefEqProofs [hn] <;> rfl) rfl ?_)
    refine WpC.seq (WpC.ops tabOk (r := []) (by simp -implicitDefEqProofs [hw1] <;> rfl) rfl ?_)
    refine WpC.ops tabOk (r := []) (by simp -implicitDefEqProofs [hw2, xl, yl, xt, yt, (show k ≤ 8589934591 by omega)] <;> rfl) rfl ?_
    refine WpC.ops tabOk (r := []) (by simp -implicitDefEqProofs [hw] <;> rfl) rfl ?_
    have tx1 : tot (X (k + 1)) 0 0 = if 0 < n then some (d + n.natAbs, c) else some (d, c + n.natAbs) := by
      rw [xs, tot_snoc, tx]; exact tot_one (by omega) hd hc (by omega) 0 0
    have ty1 : tot (Y (k + 1)) 0 0 = if 0 < -n then some (c + (-n).natAbs, d) else some (c, d + (-n).natAbs) := by
      rw [ys, tot_snoc, ty]; exact tot_one (by omega) hc hd (by omega) 0 0
    refine ⟨hlt, _, Gh.pick [3, 4, 5, 17, 18, 19] [4, 6] (by simp; rfl) (env' := [(3, .sl 0 (k + 1)), (4, .sl 1 (k + 1)), (5, .d (dI (d - c + n))), (17, .d (encPs l)), (18, .d (dI l.length)), (19, .d (dI (k + 1)))]) (by simp [dI, encPs]) (by simp) (by simp) (by simp; rfl)
      (S' := [.arr 34 3 ((X (k + 1)).map Pst.enc), .arr 34 3 ((Y (k + 1)).map Pst.enc)]) (by rw [xs, ys]; simp [Pst.enc]) (by simp), ?_⟩
    by_cases hpos : 0 < n
    · rw [if_pos hpos] at tx1
      rw [if_neg (by omega)] at ty1
      refine ⟨d + n.natAbs, c, ?_, by omega, hc, by omega, tx1, ?_⟩
      · have : d - c + n = d + n.natAbs - c := by omega
        rw [this]; simp
      · rw [ty1]; congr 2; omega
    · rw [if_neg hpos] at tx1
      refine ⟨d, c + n.natAbs, ?_, hd, by omega, by omega, tx1, ?_⟩
      · have : d - c + n = d - (c + n.natAbs) := by omega
        rw [this]; simp
      · rw [ty1]
        by_cases hneg : 0 < -n
        · rw [if_pos hneg]; congr 2; omega
        · rw [if_neg hneg]; congr 2 <;> omega
  · refine WpC.exit ?_
    have hkl : k = l.length := by omega
    subst hkl
    have xl := Xl _ hk
    have yl := Yl _ hk
    have xok : ∀ p ∈ X l.length, Pst.ok p := by
      rw [hX]; intro p hp'
      obtain ⟨q, _, rfl⟩ := List.mem_map.1 hp'
      have := tmodM q.amt
      exact ⟨by simp [inI], by simp [inI], by unfold inI; simp only; omega⟩
    have yok : ∀ p ∈ Y l.length, Pst.ok p := by
      rw [hY]; intro p hp'
      obtain ⟨q, _, rfl⟩ := List.mem_map.1 hp'
      have := tmodM q.amt
      exact ⟨by simp [inI], by simp [inI], by unfold inI; simp only; omega⟩
    have xt : List.take l.length ((X l.length).map Pst.enc) = (X l.length).map Pst.enc := List.take_of_length_le (by simp [xl])
    have yt : List.take l.length ((Y l.length).map Pst.enc) = (Y l.length).map Pst.enc := List.take_of_length_le (by simp [yl])
    have sd : Small d := by unfold Small; omega
    have sc : Small c := by unfold Small; omega
    have sdc : Small (d - c) := by unfold Small; omega
    refine WpC.seq (WpC.region ?_)
    refine WpO.run tabOk 1 (by simp -implicitDefEqProofs <;> exact ⟨rfl, rfl⟩) ?_
    refine WpO.callL (by simp) rfl (by simp -implicitDefEqProofs [encPs, xt, xl] <;> rfl) (by simp -implicitDefEqProofs [encPs, xt, xl] <;> rfl) (by simp -implicitDefEqProofs [encPs, xt, xl] <;> rfl) call_13 (totals_ok (X l.length) (by omega) xok) fun r S1 hr => ?_
    rw [tx] at hr
    obtain ⟨rfl, rfl⟩ := hr
    refine ⟨by simp [totF], _, by simp [totF] <;> rfl, ?_⟩
    refine WpO.run tabOk 5 (by simp -implicitDefEqProofs <;> exact ⟨rfl, rfl⟩) ?_
    refine WpO.nil ?_
    refine WpC.seq (WpC.region ?_)
    refine WpO.run tabOk 1 (by simp -implicitDefEqProofs <;> exact ⟨rfl, rfl⟩) ?_
    refine WpO.callL (by simp) rfl (by simp -implicitDefEqProofs [encPs, yt, yl] <;> rfl) (by simp -implicitDefEqProofs [encPs, yt, yl] <;> rfl) (by simp -implicitDefEqProofs [encPs, yt, yl] <;> rfl) call_13 (totals_ok (Y l.length) (by omega) yok) fun r S1 hr => ?_
    rw [ty] at hr
    obtain ⟨rfl, rfl⟩ := hr
    refine ⟨by simp [totF], _, by simp [totF] <;> rfl, ?_⟩
    refine WpO.run tabOk 5 (by simp -implicitDefEqProofs <;> exact ⟨rfl, rfl⟩) ?_
    refine WpO.nil ?_
    refine WpC.seq (WpC.region ?_)
    refine WpO.run tabOk 31 (by simp -implicitDefEqProofs [dI, nearest_fN, f64_sub sd sc sdc, eq_self sd, eq_self sc, eq_self sdc] <;> exact ⟨rfl, rfl⟩) ?_
    refine WpO.callD (by simp) rfl (by simp -implicitDefEqProofs <;> rfl) (by simp -implicitDefEqProofs <;> rfl) (by simp -implicitDefEqProofs <;> rfl) call_12 (by simp) (awake_ok) fun r S1 hr => ?_
    obtain ⟨rfl, rfl⟩ := hr
    refine ⟨_, by simp <;> rfl, ?_⟩
    refine WpO.run tabOk 2 (by simp -implicitDefEqProofs <;> exact ⟨rfl, rfl⟩) ?_
    refine WpO.nil ?_
    refine WpC.gh (Gh.cut' [2] 0 (by simp; rfl) rfl rfl rfl rfl (by simp)) (WpC.ret ?_)
    simp

section
variable {w : World}
theorem journalSides_row {e0 : List D} {v0 : Value} {i0 : TI} (y0 : HasT tab 8 22 e0) (t0 : some i0 = tab 22) (z0 : DRel w (lt w) (elemD i0 e0) v0) :
    Calls Try.prog 6 #[v0] w fun e w' => e = .returned (.bool true) ∧ Below w.heap.size w w' := by
  rw [tab_22] at t0; cases t0
  obtain ⟨l, hl, rfl⟩ := has_postings y0
  refine WpF.law (js_ok l hl) (fun r S h => h.1) (vs := [v0]) ?_
  simp only [VRelL, VRel]
  exact ⟨v0, _, rfl, z0, rfl⟩
end
end Go.Proofs.Ytndofikacmhejaa.Pay
