/- Law JournalParts, gone through. -/
import Derived.Test.YtndofikacmhejaaJoS
namespace Go.Proofs.Ytndofikacmhejaa.Pay
open Go Go.Proofs Go.RowKit
set_option maxHeartbeats 16000000
set_option linter.unusedSimpArgs false
set_option linter.unusedVariables false

/-- Balances that do not wrap. -/
def bx (a c : Int) : List Pst → Int
  | [] => 0
  | p :: r => (if p.acc = a ∧ (c < 0 ∨ p.ctr = c) then p.amt else 0) + bx a c r
def bl (a k : Int) : List Pst → Int
  | [] => 0
  | p :: r => (if p.acc = a ∧ p.ctr < k then p.amt else 0) + bl a k r

def mild (p : Pst) : Prop := -1099511627776 < p.amt ∧ p.amt < 1099511627776 ∧ 0 ≤ p.ctr ∧ p.ctr < 10

theorem bx_in (a c : Int) : ∀ {l : List Pst}, (∀ p ∈ l, mild p) → -(l.length * 1099511627776 : Int) ≤ bx a c l ∧ bx a c l ≤ l.length * 1099511627776
  | [], _ => by simp [bx]
  | p :: r, h => by
    have h1 := bx_in a c (l := r) fun q hq => h q (by simp [hq])
    obtain ⟨m1, m2, _, _⟩ := h p (by simp)
    simp only [bx, List.length_cons, Int.natCast_add, Int.natCast_one]
    split <;> omega
theorem bl_in (a k : Int) : ∀ {l : List Pst}, (∀ p ∈ l, mild p) → -(l.length * 1099511627776 : Int) ≤ bl a k l ∧ bl a k l ≤ l.length * 1099511627776
  | [], _ => by simp [bl]
  | p :: r, h => by
    have h1 := bl_in a k (l := r) fun q hq => h q (by simp [hq])
    obtain ⟨m1, m2, _, _⟩ := h p (by simp)
    simp only [bl, List.length_cons, Int.natCast_add, Int.natCast_one]
    split <;> omega
theorem bl_succ (a : Int) (k : Int) (hk : 0 ≤ k) : ∀ {l : List Pst}, (∀ p ∈ l, mild p) → bl a (k + 1) l = bl a k l + bx a k l
  | [], _ => by simp [bl, bx]
  | p :: r, h => by
    have h1 := bl_succ a k hk (l := r) fun q hq => h q (by simp [hq])
    simp only [bl, bx, h1]
    by_cases ha : p.acc = a <;> by_cases h2 : p.ctr < k <;> by_cases h3 : p.ctr = k <;> by_cases h4 : p.ctr < k + 1 <;> simp [ha, h2, h3, h4] <;> omega
theorem bl_zero (a : Int) : ∀ {l : List Pst}, (∀ p ∈ l, mild p) → bl a 0 l = 0
  | [], _ => by simp [bl]
  | p :: r, h => by
    obtain ⟨_, _, m3, _⟩ := h p (by simp)
    simp only [bl, bl_zero a (l := r) fun q hq => h q (by simp [hq])]
    rw [if_neg (by omega)]; rfl
theorem bl_ten (a : Int) : ∀ {l : List Pst}, (∀ p ∈ l, mild p) → bl a 10 l = bx a (-1) l
  | [], _ => by simp [bl, bx]
  | p :: r, h => by
    obtain ⟨_, _, m3, m4⟩ := h p (by simp)
    simp only [bl, bx, bl_ten a (l := r) fun q hq => h q (by simp [hq])]
    by_cases ha : p.acc = a <;> simp [ha, m4]
theorem bx_append (a c : Int) : ∀ (x y : List Pst), bx a c (x ++ y) = bx a c x + bx a c y
  | [], y => by simp [bx]
  | p :: r, y => by simp only [List.cons_append, bx, bx_append a c r y]; omega

theorem balance_bx (a c : Int) : ∀ {l : List Pst} {z : Int}, (∀ p ∈ l, mild p) → -4611686018427387904 ≤ z - l.length * 1099511627776 → z + l.length * 1099511627776 ≤ 4611686018427387904 → l.foldl (balStep a c) z = z + bx a c l
  | [], z, _, _, _ => by simp [bx]
  | p :: r, z, h, h1, h2 => by
    obtain ⟨m1, m2, _, _⟩ := h p (by simp)
    simp only [List.length_cons, Int.natCast_add, Int.natCast_one] at h1 h2
    simp only [List.foldl_cons, bx, balStep]
    by_cases hc : p.acc = a ∧ (c < 0 ∨ p.ctr = c)
    · rw [if_pos hc, if_pos hc, wrapI (by omega) (by omega), balance_bx a c (fun q hq => h q (by simp [hq])) (by omega) (by omega)]
      omega
    · rw [if_neg hc, if_neg hc, balance_bx a c (fun q hq => h q (by simp [hq])) (by omega) (by omega)]
      omega
theorem balance_eq (a c : Int) {l : List Pst} (h : ∀ p ∈ l, mild p) (hl : l.length ≤ 1000) : balance l a c = bx a c l := by
  unfold balance
  rw [balance_bx a c h (by omega) (by omega)]
  omega

/-- A posting, made mild. -/
def cen (c : Int) : Int := (if (if c < IntKind.i64.wrap (-c) then IntKind.i64.wrap (-c) else c) < 0 then 0 else (if c < IntKind.i64.wrap (-c) then IntKind.i64.wrap (-c) else c)).tmod 10
def mil (p : Pst) : Pst := ⟨p.acc, cen p.ctr, p.amt.tmod 1099511627776⟩
theorem mil_mild (p : Pst) : mild (mil p) := by
  have h1 := tmodM p.amt
  refine ⟨h1.1, h1.2, ?_, ?_⟩
  · unfold mil cen
    simp only
    apply Int.tmod_nonneg
    split <;> omega
  · exact Int.tmod_lt_of_pos _ (by decide)
theorem mils (l : List Pst) : ∀ p ∈ l.map mil, mild p := fun p hp => by
  obtain ⟨q, _, rfl⟩ := List.mem_map.1 hp
  exact mil_mild q

theorem jp_ok (a b : List Pst) (account : Int) : WpF Try.prog 5 [.d (encPs a), .d (encPs b), .d (dI account)] [] (fun r S => r = .d (.bool true) ∧ S = []) := by
  refine WpF.enter tabOk Try.func5 rfl (by show 3 ≤ 105; decide) ?_
  simp only [Try.f5]
  refine WpC.seq (WpC.ops tabOk (r := []) (by simp -implicitDefEqProofs [dI] <;> rfl) rfl ?_)
  refine WpC.seq ?_
  by_cases h1 : 100 < (a.length : Int)
  · refine WpC.seq (WpC.ops tabOk (r := []) (by simp -implicitDefEqProofs [encPs, h1] <;> rfl) rfl ?_)
    refine WpC.condT (by simp) ?_
    refine WpC.seq (WpC.region ?_)
    refine WpO.callD (by simp) rfl (by simp -implicitDefEqProofs <;> rfl) (by simp -implicitDefEqProofs <;> rfl) (by simp -implicitDefEqProofs <;> rfl) call_12 (by simp) (awake_ok) fun r S1 hr => ?_
    obtain ⟨rfl, rfl⟩ := hr
    refine ⟨_, by simp <;> rfl, ?_⟩
    refine WpO.run tabOk 1 (by simp -implicitDefEqProofs <;> exact ⟨rfl, rfl⟩) ?_
    refine WpO.nil ?_
    refine WpC.gh (Gh.cut' [6] 0 (by simp; rfl) rfl rfl rfl rfl (by simp)) (WpC.ret ?_)
    simp
  by_cases h2 : 100 < (b.length : Int)
  · refine WpC.seq (WpC.ops tabOk (r := []) (by simp -implicitDefEqProofs [encPs, h1, h2] <;> rfl) rfl ?_)
    refine WpC.condT (by simp) ?_
    refine WpC.seq (WpC.region ?_)
    refine WpO.callD (by simp) rfl (by simp -implicitDefEqProofs <;> rfl) (by simp -implicitDefEqProofs <;> rfl) (by simp -implicitDefEqProofs <;> rfl) call_12 (by simp) (awake_ok) fun r S1 hr => ?_
    obtain ⟨rfl, rfl⟩ := hr
    refine ⟨_, by simp <;> rfl, ?_⟩
    refine WpO.run tabOk 1 (by simp -implicitDefEqProofs <;> exact ⟨rfl, rfl⟩) ?_
    refine WpO.nil ?_
    refine WpC.gh (Gh.cut' [6] 0 (by simp; rfl) rfl rfl rfl rfl (by simp)) (WpC.ret ?_)
    simp
  refine WpC.seq (WpC.ops tabOk (r := []) (by simp -implicitDefEqProofs [encPs, h1, h2] <;> rfl) rfl ?_)
  refine WpC.condF (by simp [h2]) (WpC.skip ?_)
  refine WpC.seq (WpC.ops tabOk (r := []) (by simp -implicitDefEqProofs <;> rfl) rfl ?_)
  refine WpC.gh (Gh.nilArr 34 3 (t := 7) (by simp) (by simp)) ?_
  refine WpC.gh (Gh.nilArr 34 3 (t := 8) (by simp) (by simp)) ?_
  refine WpC.seq ?_
  refine WpC.seq (WpC.ops tabOk (r := []) (by simp -implicitDefEqProofs <;> rfl) rfl ?_)
  obtain ⟨X, hX⟩ : ∃ X : Nat → List Pst, X = fun k => (a.take k).map mil := ⟨_, rfl⟩
  have X0 : X 0 = [] := by rw [hX]; rfl
  have Xl : ∀ k, k ≤ a.length → (X k).length = k := fun k hk => by rw [hX]; simp; omega
  have XS : ∀ k (h : k < a.length), X (k + 1) = X k ++ [mil a[k]] := fun k h => by rw [hX]; simp only [map_take _ h]
  have Xe : X a.length = a.map mil := by rw [hX]; simp [List.take_of_length_le]
  refine WpC.block (WpC.count a.length (fun k => ⟨[(1, .d (encPs b)), (2, .d (dI account)), (7, .sl 0 k), (8, .sl 1 0), (25, .d (encPs a)), (26, .d (dI a.length)), (27, .d (dI k))], [.arr 34 3 ((X k).map Pst.enc), .arr 34 3 []], 105, 0⟩)
    (Gh.cut' [1, 2, 7, 8, 25, 26, 27] 2 (by simp [encPs, dI]) (by simp [X0]) rfl rfl (by simp) (by simp)) fun k hk => ?_)
  refine WpC.seq (WpC.ops tabOk (r := []) (by simp -implicitDefEqProofs [dI] <;> rfl) rfl ?_)
  refine WpC.seq (WpC.condD (k < a.length) (by simp) (fun hlt => ?_) (fun hge => ?_))
  · refine WpC.skip ?_
    have xs := XS k hlt
    have xl := Xl k hk
    obtain ⟨p, hpp⟩ : ∃ p, a[k] = p := ⟨_, rfl⟩
    rw [hpp] at xs
    have xt : List.take k ((X k).map Pst.enc) = (X k).map Pst.enc := List.take_of_length_le (by simp [xl])
    have hw : IntKind.i64.wrap ((k : Int) + 1) = k + 1 := wrapI (by omega) (by omega)
    refine WpC.seq (WpC.block ?_)
    refine WpC.seq (WpC.ops tabOk (r := []) (by simp -implicitDefEqProofs [encPs, hpp, hlt, Pst.enc] <;> rfl) rfl ?_)
    refine WpC.ops tabOk (r := []) (by simp -implicitDefEqProofs [xl, xt, (show k ≤ 8589934591 by omega)] <;> rfl) rfl ?_
    refine WpC.ops tabOk (r := []) (by simp -implicitDefEqProofs [hw] <;> rfl) rfl ?_
    exact ⟨hlt, Gh.pick [1, 2, 7, 8, 25, 26, 27] [4, 1] (by simp; rfl) (by simp [dI, encPs]) (by simp) (by simp) (by simp; rfl) (by rw [xs]; simp [Pst.enc, mil, cen]) (by simp)⟩
  refine WpC.exit ?_
  have hkl : k = a.length := by omega
  subst hkl
  rw [Xe]
  obtain ⟨x, hx⟩ : ∃ x, a.map mil = x := ⟨_, rfl⟩
  have xm : ∀ p ∈ x, mild p := by rw [← hx]; exact mils a
  have xl : x.length = a.length := by rw [← hx]; simp
  rw [hx]
  refine WpC.seq ?_
  refine WpC.seq (WpC.ops tabOk (r := []) (by simp -implicitDefEqProofs [encPs] <;> rfl) rfl ?_)
  obtain ⟨Y, hY⟩ : ∃ Y : Nat → List Pst, Y = fun k => (b.take k).map mil := ⟨_, rfl⟩
  have Y0 : Y 0 = [] := by rw [hY]; rfl
  have Yl : ∀ k, k ≤ b.length → (Y k).length = k := fun k hk => by rw [hY]; simp; omega
  have YS : ∀ k (h : k < b.length), Y (k + 1) = Y k ++ [mil b[k]] := fun k h => by rw [hY]; simp only [map_take _ h]
  have Ye : Y b.length = b.map mil := by rw [hY]; simp [List.take_of_length_le]
  refine WpC.block (WpC.count b.length (fun k => ⟨[(2, .d (dI account)), (7, .sl 0 a.length), (8, .sl 1 k), (48, .d (encPs b)), (49, .d (dI b.length)), (50, .d (dI k))], [.arr 34 3 (x.map Pst.enc), .arr 34 3 ((Y k).map Pst.enc)], 105, 0⟩)
    (Gh.cut' [2, 7, 8, 48, 49, 50] 2 (by simp [encPs, dI]) (by simp [Y0]) rfl rfl (by simp) (by simp)) fun k hk => ?_)
  refine WpC.seq (WpC.ops tabOk (r := []) (by simp -implicitDefEqProofs [dI] <;> rfl) rfl ?_)
  refine WpC.seq (WpC.condD (k < b.length) (by simp) (fun hlt => ?_) (fun hge => ?_))
  · refine WpC.skip ?_
    have ys := YS k hlt
    have yl := Yl k hk
    obtain ⟨p, hpp⟩ : ∃ p, b[k] = p := ⟨_, rfl⟩
    rw [hpp] at ys
    have yt : List.take k ((Y k).map Pst.enc) = (Y k).map Pst.enc := List.take_of_length_le (by simp [yl])
    have hw : IntKind.i64.wrap ((k : Int) + 1) = k + 1 := wrapI (by omega) (by omega)
    refine WpC.seq (WpC.block ?_)
    refine WpC.seq (WpC.ops tabOk (r := []) (by simp -implicitDefEqProofs [encPs, hpp, hlt, Pst.enc] <;> rfl) rfl ?_)
    refine WpC.ops tabOk (r := []) (by simp -implicitDefEqProofs [yl, yt, (show k ≤ 8589934591 by omega)] <;> rfl) rfl ?_
    refine WpC.ops tabOk (r := []) (by simp -implicitDefEqProofs [hw] <;> rfl) rfl ?_
    exact ⟨hlt, Gh.pick [2, 7, 8, 48, 49, 50] [0, 4] (by simp; rfl) (by simp [dI, encPs]) (by simp) (by simp) (by simp; rfl) (by rw [ys]; simp [Pst.enc, mil, cen]) (by simp)⟩
  refine WpC.exit ?_
  have hkl : k = b.length := by omega
  subst hkl
  rw [Ye]
  obtain ⟨y, hy⟩ : ∃ y, b.map mil = y := ⟨_, rfl⟩
  have ym : ∀ p ∈ y, mild p := by rw [← hy]; exact mils b
  have yl : y.length = b.length := by rw [← hy]; simp
  rw [hy]
  have xt : List.take a.length (x.map Pst.enc) = x.map Pst.enc := List.take_of_length_le (by simp [xl])
  have yt : List.take b.length (y.map Pst.enc) = y.map Pst.enc := List.take_of_length_le (by simp [yl])
  refine WpC.seq (WpC.ops tabOk (r := []) (by simp -implicitDefEqProofs <;> rfl) rfl ?_)
  refine WpC.seq ?_
  refine WpC.seq (WpC.ops tabOk (r := []) (by simp -implicitDefEqProofs <;> rfl) rfl ?_)
  refine WpC.block (WpC.count 10 (fun k => ⟨[(2, .d (dI account)), (7, .sl 0 a.length), (8, .sl 1 b.length), (13, .d (dI (bl account k x))), (71, .d (dI k))], [.arr 34 3 (x.map Pst.enc), .arr 34 3 (y.map Pst.enc)], 105, 0⟩)
    (Gh.cut' [2, 7, 8, 13, 71] 2 (by simp [dI, bl_zero account xm]) (by simp) rfl rfl (by simp) (by simp)) fun k hk => ?_)
  refine WpC.seq (WpC.ops tabOk (r := []) (by simp -implicitDefEqProofs [dI] <;> rfl) rfl ?_)
  refine WpC.seq (WpC.condD (k < 10) (by simp <;> omega) (fun hlt => ?_) (fun hge => ?_))
  · refine WpC.skip ?_
    have hw : IntKind.i64.wrap ((k : Int) + 1) = k + 1 := wrapI (by omega) (by omega)
    have i1 := bl_in account k xm
    have i2 := bx_in account k xm
    have hs := bl_succ account k (by omega) xm
    have hw1 : IntKind.i64.wrap (bl account k x + bx account k x) = bl account k x + bx account k x := wrapI (by omega) (by omega)
    refine WpC.seq (WpC.block ?_)
    refine WpC.seq (WpC.ops tabOk (r := []) (by simp -implicitDefEqProofs <;> rfl) rfl ?_)
    refine WpC.region ?_
    refine WpO.run tabOk 4 (by simp -implicitDefEqProofs <;> exact ⟨rfl, rfl⟩) ?_
    refine WpO.callL (by simp) rfl (by simp -implicitDefEqProofs [encPs, xt, xl] <;> rfl) (by simp -implicitDefEqProofs [encPs, xt, xl] <;> rfl) (by simp -implicitDefEqProofs [encPs, xt, xl] <;> rfl) call_16 (balance_ok x account k (by omega)) fun r S1 hr => ?_
    rw [balance_eq account k xm (by omega)] at hr
    obtain ⟨rfl, rfl⟩ := hr
    refine ⟨by simp, _, by simp <;> rfl, ?_⟩
    refine WpO.run tabOk 2 (by simp -implicitDefEqProofs [hw1] <;> exact ⟨rfl, rfl⟩) ?_
    refine WpO.nil ?_
    refine WpC.ops tabOk (r := []) (by simp -implicitDefEqProofs [hw] <;> rfl) rfl ?_
    exact ⟨hlt, Gh.cut' [2, 7, 8, 13, 71] 2 (by simp [dI, hs]) (by simp) rfl rfl (by simp) (by simp)⟩
  refine WpC.exit ?_
  have hkl : k = 10 := by omega
  subst hkl
  have hten := bl_ten account xm
  have i1 := bx_in account (-1) xm
  have i2 := bx_in account (-1) ym
  have hw1 : IntKind.i64.wrap (bx account (-1) x + bx account (-1) y) = bx account (-1) x + bx account (-1) y := wrapI (by omega) (by omega)
  have zm : ∀ p ∈ x ++ y, mild p := fun p hp => by
    rw [List.mem_append] at hp
    exact hp.elim (xm p) (ym p)
  have zl : (x ++ y).length = a.length + b.length := by simp [xl, yl]
  have zb := bx_append account (-1) x y
  obtain ⟨z, hz⟩ : ∃ z, x ++ y = z := ⟨_, rfl⟩
  rw [hz] at zm zl zb
  have zt : List.take (a.length + b.length) (z.map Pst.enc) = z.map Pst.enc := List.take_of_length_le (by simp [zl])
  refine WpC.seq (WpC.region ?_)
  refine WpO.run tabOk 6 (by simp -implicitDefEqProofs [xt, yt, xl, yl, (show a.length ≤ 8589934592 by omega), (show a.length + b.length ≤ 8589934592 by omega)] <;> exact ⟨rfl, rfl⟩) ?_
  refine WpO.gh (Gh.pick [2, 7, 8, 13, 15] [0, 1, 4] (by simp; rfl) (env' := [(2, .d (dI account)), (7, .sl 0 a.length), (8, .sl 1 b.length), (13, .d (dI (bx account (-1) x))), (15, .sl 2 (a.length + b.length))]) (by simp [dI, ← hten]) (by simp) (by simp) (by simp; rfl)
    (S' := [.arr 34 3 (x.map Pst.enc), .arr 34 3 (y.map Pst.enc), .arr 34 3 (z.map Pst.enc)]) (by simp [← hz]) (by simp)) (WpO.nil ?_)
  refine WpC.seq (WpC.region ?_)
  refine WpO.run tabOk 3 (by simp -implicitDefEqProofs [dI] <;> exact ⟨rfl, rfl⟩) ?_
  refine WpO.callL (by simp) rfl (by simp -implicitDefEqProofs [encPs, xt, xl] <;> rfl) (by simp -implicitDefEqProofs [encPs, xt, xl] <;> rfl) (by simp -implicitDefEqProofs [encPs, xt, xl] <;> rfl) call_16 (balance_ok x account (-1) (by omega)) fun r S1 hr => ?_
  rw [balance_eq account (-1) xm (by omega)] at hr
  obtain ⟨rfl, rfl⟩ := hr
  refine ⟨by simp, _, by simp <;> rfl, ?_⟩
  refine WpO.run tabOk 4 (by simp -implicitDefEqProofs <;> exact ⟨rfl, rfl⟩) ?_
  refine WpO.callL (by simp) rfl (by simp -implicitDefEqProofs [encPs, zt, zl] <;> rfl) (by simp -implicitDefEqProofs [encPs, zt, zl] <;> rfl) (by simp -implicitDefEqProofs [encPs, zt, zl] <;> rfl) call_16 (balance_ok z account (-1) (by omega)) fun r S1 hr => ?_
  rw [balance_eq account (-1) zm (by omega), zb] at hr
  obtain ⟨rfl, rfl⟩ := hr
  refine ⟨by simp, _, by simp <;> rfl, ?_⟩
  refine WpO.run tabOk 3 (by simp -implicitDefEqProofs <;> exact ⟨rfl, rfl⟩) ?_
  refine WpO.callL (by simp) rfl (by simp -implicitDefEqProofs [encPs, yt, yl] <;> rfl) (by simp -implicitDefEqProofs [encPs, yt, yl] <;> rfl) (by simp -implicitDefEqProofs [encPs, yt, yl] <;> rfl) call_16 (balance_ok y account (-1) (by omega)) fun r S1 hr => ?_
  rw [balance_eq account (-1) ym (by omega)] at hr
  obtain ⟨rfl, rfl⟩ := hr
  refine ⟨by simp, _, by simp <;> rfl, ?_⟩
  refine WpO.run tabOk 4 (by simp -implicitDefEqProofs [hw1] <;> exact ⟨rfl, rfl⟩) ?_
  refine WpO.callD (by simp) rfl (by simp -implicitDefEqProofs <;> rfl) (by simp -implicitDefEqProofs <;> rfl) (by simp -implicitDefEqProofs <;> rfl) call_12 (by simp) (awake_ok) fun r S1 hr => ?_
  obtain ⟨rfl, rfl⟩ := hr
  refine ⟨_, by simp <;> rfl, ?_⟩
  refine WpO.run tabOk 2 (by simp -implicitDefEqProofs <;> exact ⟨rfl, rfl⟩) ?_
  refine WpO.nil ?_
  refine WpC.gh (Gh.cut' [6] 0 (by simp; rfl) rfl rfl rfl rfl (by simp)) (WpC.ret ?_)
  simp

section
variable {w : World}
theorem journalParts_row {e0 e1 e2 : List D} {v0 v1 v2 : Value} {i0 i1 i2 : TI} (y0 : HasT tab 8 22 e0) (y1 : HasT tab 8 22 e1) (y2 : HasT tab 8 3 e2) (t0 : some i0 = tab 22) (t1 : some i1 = tab 22) (t2 : some i2 = tab 3)
    (z0 : DRel w (lt w) (elemD i0 e0) v0) (z1 : DRel w (lt w) (elemD i1 e1) v1) (z2 : DRel w (lt w) (elemD i2 e2) v2) :
    Calls Try.prog 5 #[v0, v1, v2] w fun e w' => e = .returned (.bool true) ∧ Below w.heap.size w w' := by
  rw [tab_22] at t0 t1; cases t0; cases t1
  rw [tab_3] at t2; cases t2
  obtain ⟨a, _, rfl⟩ := has_postings y0
  obtain ⟨b, _, rfl⟩ := has_postings y1
  obtain ⟨n, rfl, _⟩ := has_int y2 tab_3
  refine WpF.law (jp_ok a b n) (fun r S h => h.1) (vs := [v0, v1, v2]) ?_
  simp only [VRelL, VRel]
  exact ⟨v0, _, rfl, z0, v1, _, rfl, z1, v2, _, rfl, z2, rfl⟩
end
end Go.Proofs.Ytndofikacmhejaa.Pay
