/- What journal.Of gives. No statement of the seed is proved here. -/
import Derived.Test.YtndofikacmhejaaJoD
namespace Go.Proofs.Ytndofikacmhejaa.Pay
open Go Go.Proofs
set_option maxHeartbeats 16000000
set_option linter.unusedSimpArgs false

theorem putS_len (c g a n : Int) : (putS c g a n).length ≤ 1 := by unfold putS; split <;> simp
theorem flat_succ {α : Type} (f : Nat → List α) (k : Nat) : (List.range (k + 1)).flatMap f = (List.range k).flatMap f ++ f k := by
  rw [List.range_succ, List.flatMap_append]; simp
theorem flat_len {α : Type} (f : Nat → List α) (h : ∀ i, (f i).length ≤ 1) : ∀ k, ((List.range k).flatMap f).length ≤ k
  | 0 => by simp
  | k + 1 => by rw [flat_succ, List.length_append]; have := flat_len f h k; have := h k; omega

theorem len_put {xs : List Pst} {m : Nat} (h : xs.length ≤ m) (c g a n : Int) : (xs ++ putS c g a n).length ≤ m + 1 := by
  have := putS_len c g a n; rw [List.length_append]; omega
theorem len_flat {xs : List Pst} {m : Nat} (h : xs.length ≤ m) (f : Nat → List Pst) (hf : ∀ i, (f i).length ≤ 1) (k : Nat) : (xs ++ (List.range k).flatMap f).length ≤ m + k := by
  have := flat_len f hf k; rw [List.length_append]; omega

def ofS (e : Ent) (l : List Ord) : List Pst × Int := match sumsS e with
  | none => ([], 3)
  | some (g, p, o) => if checkS e l = true then (postsS e l g p o (if e.back = 0 then 1 else -1), 0) else ([], 1)

theorem ofO_3 (e : Ent) (sign : Int) (xs : List Pst) : (ofO e sign xs)[3]? = some (.cells 42 (e.encR.map .d)) := rfl
theorem ofO_2 (e : Ent) (sign : Int) (xs : List Pst) : (ofO e sign xs)[2]? = some (.cells 22 [.sl 4 xs.length]) := rfl

theorem of_ok (e : Ent) (l : List Ord) (hb : e.brief) (hl : l.length ≤ 1000000) : WpF Try.prog 18 [.d e.enc, .d (encOs l)] []
    (fun r S => r = .tup [.sl 0 (ofS e l).1.length, .d (dI (ofS e l).2)] ∧ S = [.arr 34 3 ((ofS e l).1.map Pst.enc)]) := by
  have hb0 := hb
  obtain ⟨hb1, hb2, hb3, hb4, hb5⟩ := hb
  obtain ⟨R, hR⟩ : ∃ R, ofS e l = R := ⟨_, rfl⟩
  rw [hR]
  unfold ofS at hR
  refine WpF.enter tabOk Try.func18 rfl (by show 2 ≤ 109; decide) ?_
  simp only [Try.f18]
  refine WpC.seq (WpC.ops tabOk (r := []) (by simp -implicitDefEqProofs [Ent.enc, Ent.encC, Ent.encR, encIs, dI] <;> rfl) rfl ?_)
  refine WpC.seq (WpC.region ?_)
  refine WpO.run tabOk 1 (by simp -implicitDefEqProofs <;> exact ⟨rfl, rfl⟩) ?_
  refine WpO.callD (by simp) rfl (by simp -implicitDefEqProofs [Ent.enc, Ent.encC, Ent.encR, encIs, dI] <;> rfl) (by simp -implicitDefEqProofs [Ent.enc, Ent.encC, Ent.encR, encIs, dI] <;> rfl) (by simp -implicitDefEqProofs [Ent.enc, Ent.encC, Ent.encR, encIs, dI] <;> rfl) call_32 (by simp) (sums_ok e hb0) fun r S1 hr => ?_
  obtain ⟨rfl, a, b, c, ok, rfl, hs⟩ := hr
  refine ⟨_, by simp <;> rfl, ?_⟩
  refine WpO.run tabOk 9 (by simp -implicitDefEqProofs <;> exact ⟨rfl, rfl⟩) ?_
  refine WpO.nil ?_
  refine WpC.seq (WpC.block ?_)
  refine WpC.seq (WpC.ops tabOk (r := []) (by simp -implicitDefEqProofs <;> rfl) rfl ?_)
  cases hsum : sumsS e with
  | none =>
    rw [hsum] at hs hR
    simp only at hs hR
    subst hs
    refine WpC.condT (by simp) ?_
    refine WpC.seq (WpC.ops tabOk (r := []) (by simp -implicitDefEqProofs <;> rfl) rfl ?_)
    refine WpC.gh (Gh.nilArr 34 3 (t := 4) (by simp) (by simp)) ?_
    refine WpC.gh (Gh.pick [4, 5] [1] (by simp; rfl) (env' := [(4, .sl 0 0), (5, .d (.int .i64 3))]) (by simp) (by simp) (by simp) (by simp; rfl) (S' := [.arr 34 3 []]) (by simp) (by simp)) (WpC.ret ?_)
    simp [← hR, dI]
  | some v =>
    obtain ⟨g, p, o⟩ := v
    rw [hsum] at hs hR
    simp only at hs hR
    obtain ⟨rfl, rfl, rfl, rfl⟩ := hs
    refine WpC.condF (by simp) ?_
    refine WpC.seq (WpC.region ?_)
    refine WpO.run tabOk 2 (by simp -implicitDefEqProofs <;> exact ⟨rfl, rfl⟩) ?_
    refine WpO.callD (by simp) rfl (by simp -implicitDefEqProofs [Ent.enc, Ent.encC, Ent.encR, encIs, encOs, dI] <;> rfl) (by simp -implicitDefEqProofs [Ent.enc, Ent.encC, Ent.encR, encIs, encOs, dI] <;> rfl) (by simp -implicitDefEqProofs [Ent.enc, Ent.encC, Ent.encR, encIs, encOs, dI] <;> rfl) call_33 (by simp) (check_ok e l hb0 hl) fun r S1 hr => ?_
    obtain ⟨rfl, rfl⟩ := hr
    refine ⟨_, by simp <;> rfl, ?_⟩
    refine WpO.run tabOk 2 (by simp -implicitDefEqProofs <;> exact ⟨rfl, rfl⟩) ?_
    refine WpO.nil ?_
    cases hchk : checkS e l with
    | false =>
      rw [hchk] at hR
      simp only [Bool.false_eq_true, if_false] at hR
      refine WpC.condT (by simp) ?_
      refine WpC.seq (WpC.ops tabOk (r := []) (by simp -implicitDefEqProofs <;> rfl) rfl ?_)
      refine WpC.gh (Gh.nilArr 34 3 (t := 4) (by simp) (by simp)) ?_
      refine WpC.gh (Gh.pick [4, 5] [1] (by simp; rfl) (env' := [(4, .sl 0 0), (5, .d (.int .i64 1))]) (by simp) (by simp) (by simp) (by simp; rfl) (S' := [.arr 34 3 []]) (by simp) (by simp)) (WpC.ret ?_)
      simp [← hR, dI]
    | true =>
      rw [hchk] at hR
      simp only [if_true] at hR
      refine WpC.condF (by simp) (WpC.skip ?_)
      have hck : (e.paid.length : Int) = e.owed.length ∧ ¬ (l.length : Int) < e.garn.length := by
        unfold checkS at hchk
        split at hchk
        · cases hchk
        · omega
      refine WpC.seq (WpC.ops tabOk (r := []) (by simp -implicitDefEqProofs <;> rfl) rfl ?_)
      refine WpC.seq (WpC.seq ?_)
      obtain ⟨sg, hsg⟩ : ∃ sg : Int, (if e.back = 0 then (1 : Int) else -1) = sg := ⟨_, rfl⟩
      rw [hsg] at hR
      refine WpC.ops tabOk (r := []) (by simp -implicitDefEqProofs <;> rfl) rfl ?_
      refine WpC.join ⟨[(1, .d (encOs l)), (2, .ref 0 0), (6, .d (dI a)), (7, .d (dI b)), (8, .d (dI c)), (10, .ref 1 0)], [.cells 45 (e.encC.map .d), .cells 3 [.d (dI sg)]], 109, 0⟩ ?_ ?_
      · refine WpC.condD (e.back ≠ 0) (by simp) (fun h1 => ?_) (fun h1 => ?_)
        · refine WpC.ops tabOk (r := []) (by simp -implicitDefEqProofs <;> rfl) rfl ?_
          rw [if_neg h1] at hsg
          exact ⟨rfl, Gh.cut' [1, 2, 6, 7, 8, 10] 2 (by simp [encOs, dI]) (by simp [Ent.encC, Ent.encR, encIs, dI, ← hsg]) rfl rfl (by simp [Ent.encC, Ent.encR]) (by simp)⟩
        · refine WpC.skip ?_
          rw [if_pos (by omega)] at hsg
          exact ⟨rfl, Gh.cut' [1, 2, 6, 7, 8, 10] 2 (by simp [encOs, dI]) (by simp [Ent.encC, Ent.encR, encIs, dI, ← hsg]) rfl rfl (by simp [Ent.encC, Ent.encR]) (by simp)⟩
      refine WpC.seq (WpC.ops tabOk (r := []) (by simp -implicitDefEqProofs <;> rfl) rfl ?_)
      refine WpC.seq (WpC.ops tabOk (r := []) (by simp -implicitDefEqProofs <;> rfl) rfl ?_)
      refine WpC.seq (WpC.ops tabOk (r := []) (by simp -implicitDefEqProofs [Ent.encC, Ent.encR] <;> rfl) rfl ?_)
      refine WpC.gh (Gh.nilCell (id := 2) (off := 0) (t := 22) (cs := [.d .nil]) 34 3 (by simp) (by simp) (by simp)) ?_
      refine WpC.gh (s' := ⟨[(1, .d (encOs l)), (6, .d (dI a)), (7, .d (dI b)), (8, .d (dI c)), (11, .ref 2 0), (12, .fn 34 [.ref 2 0, .ref 0 0, .ref 1 0]), (13, .ref 3 0)], ofO e sg [], 109, 0⟩) (Gh.cut' [1, 6, 7, 8, 11, 12, 13] 5 (by simp) (by simp [ofO, Ent.encC, Ent.encR]) rfl (by simp) (by simp [Ent.encC, Ent.encR, ofO, belows_d]) (by simp)) ?_
      have L0 : ([] : List Pst).length ≤ 0 := by simp
      refine WpC.seq (WpC.region ?_)
      refine WpO.run tabOk 2 (by simp -implicitDefEqProofs <;> exact ⟨rfl, rfl⟩) ?_
      refine put_call (n := a) (account := 4000) (Nat.le_trans L0 (by omega)) rfl rfl (by decide) rfl (by simp) (by simp [dI]) (by simp [dI]) (by simp) (WpO.nil ?_)
      have L1 := len_put L0 e.ctr sg (4000) (a)
      obtain ⟨x1, hx1⟩ : ∃ x, ([] : List Pst) ++ putS e.ctr sg (4000) (a) = x := ⟨_, rfl⟩
      rw [hx1] at L1 ⊢
      refine WpC.seq (WpC.region ?_)
      refine WpO.run tabOk 2 (by simp -implicitDefEqProofs <;> exact ⟨rfl, rfl⟩) ?_
      refine put_call (n := c) (account := 4100) (Nat.le_trans L1 (by omega)) rfl rfl (by decide) rfl (by simp) (by simp [dI]) (by simp [dI]) (by simp) (WpO.nil ?_)
      have L2 := len_put L1 e.ctr sg (4100) (c)
      obtain ⟨x2, hx2⟩ : ∃ x, x1 ++ putS e.ctr sg (4100) (c) = x := ⟨_, rfl⟩
      rw [hx2] at L2 ⊢
      refine WpC.seq (WpC.region ?_)
      refine WpO.run tabOk 3 (by simp -implicitDefEqProofs [ofO_3, Ent.encR, dI, encIs] <;> exact ⟨rfl, rfl⟩) ?_
      refine put_call (n := e.short) (account := 1700) (Nat.le_trans L2 (by omega)) rfl rfl (by decide) rfl (by simp) (by simp [dI]) (by simp [dI]) (by simp) (WpO.nil ?_)
      have L3 := len_put L2 e.ctr sg (1700) (e.short)
      obtain ⟨x3, hx3⟩ : ∃ x, x2 ++ putS e.ctr sg (1700) (e.short) = x := ⟨_, rfl⟩
      rw [hx3] at L3 ⊢
      refine WpC.seq (WpC.region ?_)
      refine WpO.run tabOk 4 (by simp -implicitDefEqProofs [ofO_3, Ent.encR, dI, encIs] <;> exact ⟨rfl, rfl⟩) ?_
      refine put_call (n := IntKind.i64.wrap (-e.net)) (account := 2000) (Nat.le_trans L3 (by omega)) rfl rfl (by decide) rfl (by simp) (by simp [dI]) (by simp [dI]) (by simp) (WpO.nil ?_)
      have L4 := len_put L3 e.ctr sg (2000) (IntKind.i64.wrap (-e.net))
      obtain ⟨x4, hx4⟩ : ∃ x, x3 ++ putS e.ctr sg (2000) (IntKind.i64.wrap (-e.net)) = x := ⟨_, rfl⟩
      rw [hx4] at L4 ⊢
      refine WpC.seq (WpC.region ?_)
      refine WpO.run tabOk 4 (by simp -implicitDefEqProofs [ofO_3, Ent.encR, dI, encIs] <;> exact ⟨rfl, rfl⟩) ?_
      refine put_call (n := IntKind.i64.wrap (-e.tax)) (account := 2100) (Nat.le_trans L4 (by omega)) rfl rfl (by decide) rfl (by simp) (by simp [dI]) (by simp [dI]) (by simp) (WpO.nil ?_)
      have L5 := len_put L4 e.ctr sg (2100) (IntKind.i64.wrap (-e.tax))
      obtain ⟨x5, hx5⟩ : ∃ x, x4 ++ putS e.ctr sg (2100) (IntKind.i64.wrap (-e.tax)) = x := ⟨_, rfl⟩
      rw [hx5] at L5 ⊢
      obtain ⟨f, hf⟩ : ∃ f : Nat → List Pst, f = fun (i : Nat) => putS e.ctr sg (2200 + (i : Int)) (IntKind.i64.wrap (IntKind.i64.wrap (-(e.paid.getD i 0)) - e.owed.getD i 0)) := ⟨_, rfl⟩
      have hfl : ∀ i, (f i).length ≤ 1 := fun i => by rw [hf]; exact putS_len _ _ _ _
      refine WpC.seq ?_
      refine WpC.seq (WpC.ops tabOk (r := []) (by simp -implicitDefEqProofs [ofO_3, Ent.encR, dI, encIs] <;> rfl) rfl ?_)
      refine WpC.block (WpC.count e.paid.length (fun k => ⟨[(1, .d (encOs l)), (7, .d (dI b)), (11, .ref 2 0), (12, .fn 34 [.ref 2 0, .ref 0 0, .ref 1 0]), (13, .ref 3 0), (60, .d (encIs e.paid)), (61, .d (dI e.paid.length)), (62, .d (dI k))], ofO e sg (x5 ++ (List.range k).flatMap f), 109, 0⟩)
        (Gh.cut' [1, 7, 11, 12, 13, 60, 61, 62] 5 (by simp [dI, encIs]) (by simp [ofO]) rfl (by simp) (by simp [ofO, belows_d]) (by simp)) fun k hk => ?_)
      refine WpC.seq (WpC.ops tabOk (r := []) (by simp -implicitDefEqProofs [dI] <;> rfl) rfl ?_)
      refine WpC.seq (WpC.condD (k < e.paid.length) (by simp) (fun hlt => ?_) (fun hge => ?_))
      · refine WpC.skip ?_
        have hko : k < e.owed.length := by omega
        obtain ⟨n, hn⟩ : ∃ n, e.paid[k] = n := ⟨_, rfl⟩
        obtain ⟨m, hm⟩ : ∃ m, e.owed[k] = m := ⟨_, rfl⟩
        have hfk : f k = putS e.ctr sg (2200 + (k : Int)) (IntKind.i64.wrap (IntKind.i64.wrap (-n) - m)) := by
          rw [hf]; simp only [List.getD_eq_getElem?_getD, List.getElem?_eq_getElem hlt, List.getElem?_eq_getElem hko, Option.getD_some, hn, hm]
        have hw : IntKind.i64.wrap ((k : Int) + 1) = k + 1 := wrapI (by omega) (by omega)
        have hw2 : IntKind.i64.wrap (2200 + (k : Int)) = 2200 + k := wrapI (by omega) (by omega)
        refine WpC.seq (WpC.block ?_)
        refine WpC.seq (WpC.ops tabOk (r := []) (by simp -implicitDefEqProofs [encIs, dI, hn, hlt] <;> rfl) rfl ?_)
        refine WpC.region ?_
        refine WpO.run tabOk 11 (by simp -implicitDefEqProofs [ofO_3, Ent.encR, dI, encIs, hm, hko, hw2] <;> exact ⟨rfl, rfl⟩) ?_
        refine put_call (n := IntKind.i64.wrap (IntKind.i64.wrap (-n) - m)) (account := 2200 + (k : Int)) (Nat.le_trans (len_flat L5 f hfl k) (by omega)) rfl rfl (by decide) rfl (by simp) (by simp [dI]) (by simp [dI]) (by simp) (WpO.nil ?_)
        refine WpC.ops tabOk (r := []) (by simp -implicitDefEqProofs [hw] <;> rfl) rfl ?_
        exact ⟨hlt, Gh.cut' [1, 7, 11, 12, 13, 60, 61, 62] 5 (by simp [dI, encIs]) (by rw [flat_succ, hfk]; simp [ofO]) rfl (by simp) (by simp [ofO, belows_d]) (by simp)⟩
      refine WpC.exit ?_
      have hkl : k = e.paid.length := by omega
      subst hkl
      have L6 := len_flat L5 f hfl e.paid.length
      obtain ⟨ys, hys⟩ : ∃ ys, x5 ++ (List.range e.paid.length).flatMap f = ys := ⟨_, rfl⟩
      rw [hys] at L6 ⊢
      refine WpC.seq (WpC.region ?_)
      refine WpO.run tabOk 3 (by simp -implicitDefEqProofs <;> exact ⟨rfl, rfl⟩) ?_
      refine put_call (n := IntKind.i64.wrap (-b)) (account := 2300) (Nat.le_trans L6 (by omega)) rfl rfl (by decide) rfl (by simp) (by simp [dI]) (by simp [dI]) (by simp) (WpO.nil ?_)
      have L7 := len_put L6 e.ctr sg (2300) (IntKind.i64.wrap (-b))
      obtain ⟨x7, hx7⟩ : ∃ x, ys ++ putS e.ctr sg (2300) (IntKind.i64.wrap (-b)) = x := ⟨_, rfl⟩
      rw [hx7] at L7 ⊢
      refine WpC.seq (WpC.region ?_)
      refine WpO.run tabOk 4 (by simp -implicitDefEqProofs [ofO_3, Ent.encR, dI, encIs] <;> exact ⟨rfl, rfl⟩) ?_
      refine put_call (n := IntKind.i64.wrap (-e.taken)) (account := 2400) (Nat.le_trans L7 (by omega)) rfl rfl (by decide) rfl (by simp) (by simp [dI]) (by simp [dI]) (by simp) (WpO.nil ?_)
      have L8 := len_put L7 e.ctr sg (2400) (IntKind.i64.wrap (-e.taken))
      obtain ⟨x8, hx8⟩ : ∃ x, x7 ++ putS e.ctr sg (2400) (IntKind.i64.wrap (-e.taken)) = x := ⟨_, rfl⟩
      rw [hx8] at L8 ⊢
      obtain ⟨q, hq⟩ : ∃ q : Nat → List Pst, q = fun (i : Nat) => putS e.ctr sg (IntKind.i64.wrap (3000 + ((l[i]?).map Ord.cred).getD 0)) (IntKind.i64.wrap (-(e.garn.getD i 0))) := ⟨_, rfl⟩
      have hql : ∀ i, (q i).length ≤ 1 := fun i => by rw [hq]; exact putS_len _ _ _ _
      refine WpC.seq ?_
      refine WpC.seq (WpC.ops tabOk (r := []) (by simp -implicitDefEqProofs [ofO_3, Ent.encR, dI, encIs] <;> rfl) rfl ?_)
      refine WpC.block (WpC.count e.garn.length (fun k => ⟨[(1, .d (encOs l)), (11, .ref 2 0), (12, .fn 34 [.ref 2 0, .ref 0 0, .ref 1 0]), (13, .ref 3 0), (90, .d (encIs e.garn)), (91, .d (dI e.garn.length)), (92, .d (dI k))], ofO e sg (x8 ++ (List.range k).flatMap q), 109, 0⟩)
        (Gh.cut' [1, 11, 12, 13, 90, 91, 92] 5 (by simp [dI, encIs]) (by simp [ofO]) rfl (by simp) (by simp [ofO, belows_d]) (by simp)) fun k hk => ?_)
      refine WpC.seq (WpC.ops tabOk (r := []) (by simp -implicitDefEqProofs [dI] <;> rfl) rfl ?_)
      refine WpC.seq (WpC.condD (k < e.garn.length) (by simp) (fun hlt => ?_) (fun hge => ?_))
      · refine WpC.skip ?_
        have hko : k < l.length := by omega
        obtain ⟨n, hn⟩ : ∃ n, e.garn[k] = n := ⟨_, rfl⟩
        obtain ⟨o, ho⟩ : ∃ o, l[k] = o := ⟨_, rfl⟩
        have hqk : q k = putS e.ctr sg (IntKind.i64.wrap (3000 + o.cred)) (IntKind.i64.wrap (-n)) := by
          rw [hq]; simp only [List.getD_eq_getElem?_getD, List.getElem?_eq_getElem hlt, List.getElem?_eq_getElem hko, Option.getD_some, Option.map_some, hn, ho]
        have hw : IntKind.i64.wrap ((k : Int) + 1) = k + 1 := wrapI (by omega) (by omega)
        refine WpC.seq (WpC.block ?_)
        refine WpC.seq (WpC.ops tabOk (r := []) (by simp -implicitDefEqProofs [encIs, dI, hn, hlt] <;> rfl) rfl ?_)
        refine WpC.region ?_
        refine WpO.run tabOk 9 (by simp -implicitDefEqProofs [encOs, Ord.enc, dI, ho, hko] <;> exact ⟨rfl, rfl⟩) ?_
        refine put_call (n := IntKind.i64.wrap (-n)) (account := IntKind.i64.wrap (3000 + o.cred)) (Nat.le_trans (len_flat L8 q hql k) (by omega)) rfl rfl (by decide) rfl (by simp) (by simp [dI]) (by simp [dI]) (by simp) (WpO.nil ?_)
        refine WpC.ops tabOk (r := []) (by simp -implicitDefEqProofs [hw] <;> rfl) rfl ?_
        exact ⟨hlt, Gh.cut' [1, 11, 12, 13, 90, 91, 92] 5 (by simp [dI, encIs, encOs, Ord.enc]) (by rw [flat_succ, hqk]; simp [ofO]) rfl (by simp) (by simp [ofO, belows_d]) (by simp)⟩
      refine WpC.exit ?_
      have hkl : k = e.garn.length := by omega
      subst hkl
      refine WpC.seq (WpC.ops tabOk (r := []) (by simp -implicitDefEqProofs [ofO_2] <;> rfl) rfl ?_)
      refine WpC.gh (Gh.pick [4, 5] [4] (by simp; rfl) (env' := [(4, .sl 0 (x8 ++ (List.range e.garn.length).flatMap q).length), (5, .d (.int .i64 0))]) (by simp [ofO]) (by simp) (by simp [ofO]) (by simp [ofO]; rfl) (S' := [.arr 34 3 ((x8 ++ (List.range e.garn.length).flatMap q).map Pst.enc)]) (by simp [ofO]) (by simp)) (WpC.ret ?_)
      have hfin : x8 ++ (List.range e.garn.length).flatMap q = postsS e l a b c sg := by
        rw [← hx8, ← hx7, ← hys, ← hx5, ← hx4, ← hx3, ← hx2, ← hx1, hf, hq]; rfl
      simp [← hR, dI, ← hfin]
end Go.Proofs.Ytndofikacmhejaa.Pay
