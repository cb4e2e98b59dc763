/- Law JournalBack, gone through. -/
import Derived.Test.YtndofikacmhejaaJoH
namespace Go.Proofs.Ytndofikacmhejaa.Pay
open Go Go.Proofs Go.RowKit
set_option maxHeartbeats 16000000
set_option linter.unusedSimpArgs false

def baseP (a n : Int) : List (Int × Int) := if n = 0 then [] else [(a, n)]
def mkP (c s : Int) (x : Int × Int) : Pst := ⟨x.1, c, IntKind.i64.wrap (s * x.2)⟩
theorem putS_base (c s a n : Int) : putS c s a n = (baseP a n).map (mkP c s) := by unfold putS baseP; split <;> simp [mkP]
theorem posts_base (e : Ent) (l : List Ord) (g p o : Int) : ∃ base : List (Int × Int), (∀ s, postsS e l g p o s = base.map (mkP e.ctr s)) ∧ base.length ≤ 7 + e.paid.length + e.garn.length := by
  refine ⟨baseP 4000 g ++ baseP 4100 o ++ baseP 1700 e.short ++ baseP 2000 (IntKind.i64.wrap (-e.net)) ++ baseP 2100 (IntKind.i64.wrap (-e.tax)) ++
    ((List.range e.paid.length).flatMap fun (i : Nat) => baseP (2200 + (i : Int)) (IntKind.i64.wrap (IntKind.i64.wrap (-(e.paid.getD i 0)) - e.owed.getD i 0))) ++
    baseP 2300 (IntKind.i64.wrap (-p)) ++ baseP 2400 (IntKind.i64.wrap (-e.taken)) ++
    ((List.range e.garn.length).flatMap fun (i : Nat) => baseP (IntKind.i64.wrap (3000 + ((l[i]?).map Ord.cred).getD 0)) (IntKind.i64.wrap (-(e.garn.getD i 0)))), fun s => ?_, ?_⟩
  · unfold postsS
    simp only [putS_base, List.map_append, List.map_flatMap]
  · have hb : ∀ a n, (baseP a n).length ≤ 1 := fun a n => by unfold baseP; split <;> simp
    simp only [List.length_append]
    have e1 := flat_len (fun (i : Nat) => baseP (2200 + (i : Int)) (IntKind.i64.wrap (IntKind.i64.wrap (-(e.paid.getD i 0)) - e.owed.getD i 0))) (fun i => hb _ _) e.paid.length
    have e2 := flat_len (fun (i : Nat) => baseP (IntKind.i64.wrap (3000 + ((l[i]?).map Ord.cred).getD 0)) (IntKind.i64.wrap (-(e.garn.getD i 0)))) (fun i => hb _ _) e.garn.length
    have h1 := hb 4000 g; have h2 := hb 4100 o; have h3 := hb 1700 e.short; have h4 := hb 2000 (IntKind.i64.wrap (-e.net)); have h5 := hb 2100 (IntKind.i64.wrap (-e.tax)); have h6 := hb 2300 (IntKind.i64.wrap (-p)); have h7 := hb 2400 (IntKind.i64.wrap (-e.taken))
    omega

theorem wrap_back (n : Int) : IntKind.i64.wrap (-(IntKind.i64.wrap (-n))) = IntKind.i64.wrap n := by
  simp only [IntKind.wrap_i64]
  omega

/-- An entry's postings, and those of the one that takes it back. -/
theorem of_both (e : Ent) (l : List Ord) : ∃ (base : List (Int × Int)) (er : Int), base.length ≤ 7 + e.paid.length + e.garn.length ∧ ofS { e with back := 0 } l = (base.map (mkP e.ctr 1), er) ∧ ofS { e with back := 1 } l = (base.map (mkP e.ctr (-1)), er) := by
  have h1 : sumsS { e with back := 0 } = sumsS e := rfl
  have h2 : sumsS { e with back := 1 } = sumsS e := rfl
  have h3 : checkS { e with back := 0 } l = checkS e l := rfl
  have h4 : checkS { e with back := 1 } l = checkS e l := rfl
  unfold ofS
  rw [h1, h2, h3, h4]
  cases sumsS e with
  | none => exact ⟨[], 3, by simp, rfl, rfl⟩
  | some v =>
    obtain ⟨g, p, o⟩ := v
    cases checkS e l with
    | false => exact ⟨[], 1, by simp, rfl, rfl⟩
    | true =>
      obtain ⟨base, hb, hbl⟩ := posts_base e l g p o
      refine ⟨base, 0, hbl, ?_, ?_⟩
      · have : postsS { e with back := 0 } l g p o 1 = postsS e l g p o 1 := rfl
        simp only [if_true, this, hb]
      · have : postsS { e with back := 1 } l g p o (-1) = postsS e l g p o (-1) := rfl
        simp only [if_true]
        rw [if_neg (by decide), this, hb]

theorem jb_ok (e : Ent) (l : List Ord) : WpF Try.prog 4 [.d e.enc, .d (encOs l)] [] (fun r S => r = .d (.bool true) ∧ S = []) := by
  refine WpF.enter tabOk Try.func4 rfl (by show 2 ≤ 88; decide) ?_
  simp only [Try.f4]
  refine WpC.seq (WpC.ops tabOk (r := []) (by simp -implicitDefEqProofs [Ent.enc, Ent.encC, Ent.encR, encIs] <;> rfl) rfl ?_)
  refine WpC.seq ?_
  refine WpC.seq (WpC.region ?_)
  refine WpO.run tabOk 1 (by simp -implicitDefEqProofs <;> exact ⟨rfl, rfl⟩) ?_
  refine WpO.callD (by simp) rfl (by simp -implicitDefEqProofs [Ent.enc, Ent.encC, Ent.encR, encIs] <;> rfl) (by simp -implicitDefEqProofs [Ent.enc, Ent.encC, Ent.encR, encIs] <;> rfl) (by simp -implicitDefEqProofs [Ent.enc, Ent.encC, Ent.encR, encIs] <;> rfl) call_17 (by simp) (small_ok e) fun r S1 hr => ?_
  obtain ⟨rfl, rfl⟩ := hr
  refine ⟨_, by simp <;> rfl, ?_⟩
  by_cases h1 : smallB e = true
  · by_cases h2 : 60 < (l.length : Int)
    · refine WpO.run tabOk 6 (by simp -implicitDefEqProofs [h1, h2, encOs] <;> exact ⟨rfl, rfl⟩) ?_
      refine WpO.nil (WpC.condT (by simp) ?_)
      refine WpC.seq (WpC.region ?_)
      refine WpO.callD (by simp) rfl (by simp -implicitDefEqProofs <;> rfl) (by simp -implicitDefEqProofs <;> rfl) (by simp -implicitDefEqProofs <;> rfl) call_12 (by simp) (awake_ok) fun r S1 hr => ?_
      obtain ⟨rfl, rfl⟩ := hr
      refine ⟨_, by simp <;> rfl, ?_⟩
      refine WpO.run tabOk 1 (by simp -implicitDefEqProofs <;> exact ⟨rfl, rfl⟩) ?_
      refine WpO.nil ?_
      refine WpC.gh (Gh.cut' [4] 0 (by simp; rfl) rfl rfl rfl rfl (by simp)) (WpC.ret ?_)
      simp
    have hb : Ent.brief e := by
      unfold smallB at h1
      simp only [Bool.and_eq_true, decide_eq_true_eq] at h1
      unfold Ent.brief
      omega
    have hl : l.length ≤ 1000000 := by omega
    obtain ⟨base, er, hbl, q0, q1⟩ := of_both e l
    refine WpO.run tabOk 6 (by simp -implicitDefEqProofs [h1, h2, encOs] <;> exact ⟨rfl, rfl⟩) ?_
    refine WpO.nil (WpC.condF (by simp [h2]) (WpC.skip ?_))
    refine WpC.seq (WpC.ops tabOk (r := []) (by simp -implicitDefEqProofs [dI] <;> rfl) rfl ?_)
    refine WpC.seq (WpC.region ?_)
    refine WpO.run tabOk 2 (by simp -implicitDefEqProofs <;> exact ⟨rfl, rfl⟩) ?_
    refine WpO.callD (by simp) rfl (by simp -implicitDefEqProofs [Ent.enc, Ent.encC, Ent.encR, encIs, encOs, dI] <;> rfl) (by simp -implicitDefEqProofs [Ent.enc, Ent.encC, Ent.encR, encIs, encOs, dI] <;> rfl) (by simp -implicitDefEqProofs [Ent.enc, Ent.encC, Ent.encR, encIs, encOs, dI] <;> rfl) call_18 (by simp) (of_ok { e with back := 0 } l hb hl) fun r S1 hr => ?_
    rw [q0] at hr
    obtain ⟨rfl, rfl⟩ := hr
    refine ⟨_, by simp <;> rfl, ?_⟩
    refine WpO.run tabOk 5 (by simp -implicitDefEqProofs <;> exact ⟨rfl, rfl⟩) ?_
    refine WpO.nil ?_
    refine WpC.seq (WpC.ops tabOk (r := []) (by simp -implicitDefEqProofs [dI] <;> rfl) rfl ?_)
    refine WpC.seq (WpC.region ?_)
    refine WpO.run tabOk 2 (by simp -implicitDefEqProofs <;> exact ⟨rfl, rfl⟩) ?_
    refine WpO.callD (by simp) rfl (by simp -implicitDefEqProofs [Ent.enc, Ent.encC, Ent.encR, encIs, encOs, dI] <;> rfl) (by simp -implicitDefEqProofs [Ent.enc, Ent.encC, Ent.encR, encIs, encOs, dI] <;> rfl) (by simp -implicitDefEqProofs [Ent.enc, Ent.encC, Ent.encR, encIs, encOs, dI] <;> rfl) call_18 (by simp) (of_ok { e with back := 1 } l hb hl) fun r S1 hr => ?_
    rw [q1] at hr
    obtain ⟨rfl, rfl⟩ := hr
    refine ⟨_, by simp <;> rfl, ?_⟩
    refine WpO.run tabOk 5 (by simp -implicitDefEqProofs <;> exact ⟨rfl, rfl⟩) ?_
    refine WpO.nil ?_
    refine WpC.seq ?_
    refine WpC.seq (WpC.ops tabOk (r := []) (by simp -implicitDefEqProofs [dI] <;> rfl) rfl ?_)
    refine WpC.condF (by simp) (WpC.skip ?_)
    refine WpC.seq (WpC.seq ?_)
    refine WpC.ops tabOk (r := []) (by simp -implicitDefEqProofs <;> rfl) rfl ?_
    refine WpC.block (WpC.count base.length (fun k => ⟨[(5, .sl 0 base.length), (7, .sl 1 base.length), (44, .d (dI base.length)), (45, .d (dI k))], [.arr 34 3 ((base.map (mkP e.ctr 1)).map Pst.enc), .arr 34 3 ((base.map (mkP e.ctr (-1))).map Pst.enc)], 88, 0⟩)
      (Gh.pick [5, 7, 44, 45] [1, 2] (by simp; rfl) (by simp [dI]) (by simp) (by simp) (by simp; rfl) (by simp) (by simp)) fun k hk => ?_)
    refine WpC.seq (WpC.ops tabOk (r := []) (by simp -implicitDefEqProofs [dI] <;> rfl) rfl ?_)
    refine WpC.seq (WpC.condD (k < base.length) (by simp) (fun hlt => ?_) (fun hge => ?_))
    · refine WpC.skip ?_
      obtain ⟨v, hv⟩ : ∃ v, base[k] = v := ⟨_, rfl⟩
      have hw : IntKind.i64.wrap ((k : Int) + 1) = k + 1 := by
        obtain ⟨_, b2, _, b4, _⟩ := hb
        exact wrapI (by omega) (by omega)
      refine WpC.seq (WpC.block ?_)
      refine WpC.seq (WpC.ops tabOk (r := []) (by simp -implicitDefEqProofs <;> rfl) rfl ?_)
      refine WpC.seq (WpC.opsD tabOk (by kernel_rfl) (by kernel_rfl) (by simp -implicitDefEqProofs [hlt, hv, mkP, Pst.enc, dI, wrap_back] <;> rfl) ?_)
      refine WpC.condF (by simp) (WpC.skip ?_)
      refine WpC.ops tabOk (r := []) (by simp -implicitDefEqProofs [hw] <;> rfl) rfl ?_
      exact ⟨hlt, Gh.cut' [5, 7, 44, 45] 2 (by simp [dI]) (by simp) rfl rfl (by simp) (by simp)⟩
    · refine WpC.exit ?_
      refine WpC.seq (WpC.region ?_)
      refine WpO.callD (by simp) rfl (by simp -implicitDefEqProofs <;> rfl) (by simp -implicitDefEqProofs <;> rfl) (by simp -implicitDefEqProofs <;> rfl) call_12 (by simp) (awake_ok) fun r S1 hr => ?_
      obtain ⟨rfl, rfl⟩ := hr
      refine ⟨_, by simp <;> rfl, ?_⟩
      refine WpO.run tabOk 1 (by simp -implicitDefEqProofs <;> exact ⟨rfl, rfl⟩) ?_
      refine WpO.nil ?_
      refine WpC.gh (Gh.cut' [4] 0 (by simp; rfl) rfl rfl rfl rfl (by simp)) (WpC.ret ?_)
      simp
  · refine WpO.run tabOk 6 (by simp -implicitDefEqProofs [h1] <;> exact ⟨rfl, rfl⟩) ?_
    refine WpO.nil (WpC.condT (by simp) ?_)
    refine WpC.seq (WpC.region ?_)
    refine WpO.callD (by simp) rfl (by simp -implicitDefEqProofs <;> rfl) (by simp -implicitDefEqProofs <;> rfl) (by simp -implicitDefEqProofs <;> rfl) call_12 (by simp) (awake_ok) fun r S1 hr => ?_
    obtain ⟨rfl, rfl⟩ := hr
    refine ⟨_, by simp <;> rfl, ?_⟩
    refine WpO.run tabOk 1 (by simp -implicitDefEqProofs <;> exact ⟨rfl, rfl⟩) ?_
    refine WpO.nil ?_
    refine WpC.gh (Gh.cut' [4] 0 (by simp; rfl) rfl rfl rfl rfl (by simp)) (WpC.ret ?_)
    simp

/-! ### The row -/

theorem has_ints {g : Nat} {ds : List D} (h : HasT tab (g + 2) 40 ds) : ∃ l : List Int, ds = [encIs l] ∧ ∀ n ∈ l, inI n := by
  unfold HasT at h
  simp only [tab_40, tab_3] at h
  obtain ⟨xs, rfl, _, hx⟩ := h
  obtain ⟨l, rfl, hl⟩ := list_of (enc := dI) (ok := inI) fun x hx' => by
    obtain ⟨ys, h1, rfl⟩ := hx x hx'
    obtain ⟨n, rfl, h2⟩ := has_int h1 tab_3
    exact ⟨n, h2, rfl⟩
  exact ⟨l, rfl, hl⟩

theorem has_list {g t e k : Nat} {ds : List D} {a b : Nat} {z : List D} {ei : TI} (h : HasT tab (g + 1) t ds) (ht : tab t = some ⟨.slice e, a, b, z⟩) (he : tab e = some ei) (hk : ei.size = k) : ∃ xs, ds = [.list k xs] := by
  unfold HasT at h
  simp only [ht, he] at h
  obtain ⟨xs, rfl, _⟩ := h
  exact ⟨xs, by rw [hk]⟩

theorem has_sums {g : Nat} {ds : List D} (h : HasT tab (g + 2) 39 ds) : ∃ x y z, ds = [dI x, dI y, dI z] ∧ inI x ∧ inI y ∧ inI z := by
  unfold HasT at h
  simp only [tab_39, Fs] at h
  obtain ⟨_, _, rfl, h1, _, _, rfl, h2, _, _, rfl, h3, rfl⟩ := h
  obtain ⟨x, rfl, i1⟩ := has_int h1 tab_3
  obtain ⟨y, rfl, i2⟩ := has_int h2 tab_3
  obtain ⟨z, rfl, i3⟩ := has_int h3 tab_3
  exact ⟨x, y, z, rfl, i1, i2, i3⟩

theorem has_result {g : Nat} {ds : List D} (h : HasT tab (g + 4) 42 ds) : ∃ e : Ent, ds = e.encR := by
  unfold HasT at h
  simp only [tab_42, Fs] at h
  obtain ⟨_, _, rfl, h1, _, _, rfl, h2, _, _, rfl, h3, _, _, rfl, k1, _, _, rfl, k2, _, _, rfl, k3, _, _, rfl, k4, _, _, rfl, k5, _, _, rfl, k6, _, _, rfl, m1, _, _, rfl, m2, _, _, rfl, m3, rfl⟩ := h
  obtain ⟨ls, rfl⟩ := has_list (k := kL) h1 tab_37 tab_143 rfl
  obtain ⟨a1, a2, a3, rfl, _⟩ := has_sums h2
  obtain ⟨b1, b2, b3, rfl, _⟩ := has_sums h3
  obtain ⟨x1, rfl, _⟩ := has_int k1 tab_3
  obtain ⟨x2, rfl, _⟩ := has_int k2 tab_3
  obtain ⟨x3, rfl, _⟩ := has_int k3 tab_3
  obtain ⟨x4, rfl, _⟩ := has_int k4 tab_3
  obtain ⟨x5, rfl, _⟩ := has_int k5 tab_3
  obtain ⟨x6, rfl, _⟩ := has_int k6 tab_3
  obtain ⟨l1, rfl, _⟩ := has_ints m1
  obtain ⟨l2, rfl, _⟩ := has_ints m2
  obtain ⟨l3, rfl, _⟩ := has_ints m3
  exact ⟨⟨0, 0, 0, 0, 0, ls, a1, a2, a3, b1, b2, b3, x1, x2, x3, x4, x5, x6, l1, l2, l3, []⟩, rfl⟩

theorem has_entry {g : Nat} {ds : List D} (h : HasT tab (g + 5) 45 ds) : ∃ e : Ent, ds = e.encC := by
  unfold HasT at h
  simp only [tab_45, Fs] at h
  obtain ⟨_, _, rfl, h1, _, _, rfl, h2, _, _, rfl, h3, _, _, rfl, h4, _, _, rfl, h5, _, _, rfl, h6, _, _, rfl, h7, rfl⟩ := h
  obtain ⟨x1, rfl, _⟩ := has_int h1 tab_3
  obtain ⟨x2, rfl, _⟩ := has_int h2 tab_3
  obtain ⟨x3, rfl, _⟩ := has_int h3 tab_3
  obtain ⟨x4, rfl, _⟩ := has_int h4 tab_3
  obtain ⟨x5, rfl, _⟩ := has_int h5 tab_3
  obtain ⟨e, rfl⟩ := has_result h6
  obtain ⟨fs, rfl⟩ := has_list (k := kF) h7 tab_43 tab_145 rfl
  exact ⟨{ e with run := x1, per := x2, id := x3, ctr := x4, back := x5, fixes := fs }, by simp [Ent.encC, Ent.encR]⟩

theorem has_order {g : Nat} {ds : List D} (h : HasT tab (g + 2) 78 ds) : ∃ o : Ord, True ∧ D.agg ds = o.enc := by
  unfold HasT at h
  simp only [tab_78, Fs] at h
  obtain ⟨_, _, rfl, h1, _, _, rfl, h2, _, _, rfl, h3, _, _, rfl, h4, rfl⟩ := h
  obtain ⟨x1, rfl, _⟩ := has_int h1 tab_3
  obtain ⟨x2, rfl, _⟩ := has_int h2 tab_3
  obtain ⟨x3, rfl, _⟩ := has_int h3 tab_3
  obtain ⟨x4, rfl, _⟩ := has_int h4 tab_3
  exact ⟨⟨x1, x2, x3, x4⟩, trivial, rfl⟩

theorem has_orders {g : Nat} {ds : List D} (h : HasT tab (g + 3) 46 ds) : ∃ l : List Ord, ds = [encOs l] := by
  unfold HasT at h
  simp only [tab_46, tab_78] at h
  obtain ⟨xs, rfl, _, hx⟩ := h
  obtain ⟨l, rfl, _⟩ := list_of (enc := Ord.enc) (ok := fun _ => True) fun x hx' => by
    obtain ⟨ys, h1, rfl⟩ := hx x hx'
    obtain ⟨p, h2, h3⟩ := has_order h1
    exact ⟨p, h2, h3⟩
  exact ⟨l, rfl⟩

section
variable {w : World}
theorem journalBack_row {e0 e1 : List D} {v0 v1 : Value} {i0 i1 : TI} (y0 : HasT tab 8 45 e0) (y1 : HasT tab 8 46 e1) (t0 : some i0 = tab 45) (t1 : some i1 = tab 46)
    (z0 : DRel w (lt w) (elemD i0 e0) v0) (z1 : DRel w (lt w) (elemD i1 e1) v1) :
    Calls Try.prog 4 #[v0, v1] w fun e w' => e = .returned (.bool true) ∧ Below w.heap.size w w' := by
  rw [tab_45] at t0; cases t0
  rw [tab_46] at t1; cases t1
  obtain ⟨e, rfl⟩ := has_entry y0
  obtain ⟨l, rfl⟩ := has_orders y1
  refine WpF.law (jb_ok e l) (fun r S h => h.1) (vs := [v0, v1]) ?_
  simp only [VRelL, VRel]
  exact ⟨v0, _, rfl, z0, v1, _, rfl, z1, rfl⟩
end
end Go.Proofs.Ytndofikacmhejaa.Pay
