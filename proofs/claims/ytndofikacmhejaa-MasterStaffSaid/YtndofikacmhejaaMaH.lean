/- Law MasterLine. No statement of the seed is proved here. -/
import Derived.Test.YtndofikacmhejaaMaG
namespace Go.Proofs.Ytndofikacmhejaa.Pay
open Go Go.RowKit
set_option linter.unusedVariables false
set_option linter.unusedSimpArgs false

theorem ltAt_get {α : Type} {cmp : α → Int} {l : List α} {k : Nat} (h : k < l.length) : ltAt cmp l k = decide (cmp l[k] < 0) := by
  unfold ltAt; rw [List.getElem?_eq_getElem h]
/-- A record behind all others is added at the end. -/
theorem recS_last {l : List Rec} {r : Rec} (h : ∀ x ∈ l, x.frm < r.frm ∧ 0 ≤ x.frm ∧ r.frm ≤ 1000000000) : recS l r = l ++ [r] := by
  have hs : srch (recCmp r.frm) l = l.length := bs_all (n := l.length) (by omega) (by omega) fun k _ hk => by
    rw [ltAt_get hk]
    obtain ⟨h1, h2, h3⟩ := h _ (List.getElem_mem hk)
    have : recCmp r.frm l[k] = l[k].frm - r.frm := by unfold recCmp; rw [IntKind.wrap_i64]; omega
    simp [this]; omega
  have hb : srchB (recCmp r.frm) l = false := by unfold srchB; rw [hs]; simp
  unfold recS
  rw [hb, hs]; simp

def lnAt (gs : List Int) : Int := 24276 + (gs.map fun g => 1 + g).sum
def lnRec (gs : List Int) (k : Nat) : Rec := ⟨lnAt (gs.take (k + 1)), 0, k + 1, 0, 0, 0, false⟩
def ln0 : Rec := ⟨24276, 0, 0, 0, 0, 0, false⟩
def lnRecs (gs : List Int) (k : Nat) : List Rec := ln0 :: (List.range k).map (lnRec gs)
def lnWant (gs : List Int) (w : Int) (k : Nat) : Int := ((lnRecs gs k).foldl (onStep w) ln0).base
theorem lnAt_step {gs : List Int} {k : Nat} (h : k < gs.length) : lnAt (gs.take (k + 1)) = lnAt (gs.take k) + (1 + gs[k]) := by
  unfold lnAt
  rw [List.take_add_one, List.getElem?_eq_getElem h]
  simp only [Option.toList_some, List.map_append, List.map_cons, List.map_nil, List.sum_append, List.sum_cons, List.sum_nil]
  omega
theorem lnRecs_step (gs : List Int) (k : Nat) : lnRecs gs (k + 1) = lnRecs gs k ++ [lnRec gs k] := by
  unfold lnRecs
  rw [List.range_succ]; simp
theorem lnWant_step (gs : List Int) (w : Int) (k : Nat) : lnWant gs w (k + 1) = if lnAt (gs.take (k + 1)) ≤ w then ((k : Nat) : Int) + 1 else lnWant gs w k := by
  unfold lnWant
  rw [lnRecs_step, List.foldl_append]
  simp only [List.foldl_cons, List.foldl_nil, onStep, lnRec]
  split <;> rfl
theorem lnAt_le {gs : List Int} (hg : ∀ g ∈ gs, 0 ≤ g ∧ g ≤ 255) : ∀ {k : Nat}, k ≤ gs.length → 24276 + (k : Int) ≤ lnAt (gs.take k) ∧ lnAt (gs.take k) ≤ 24276 + 256 * k
  | 0, _ => by simp [lnAt]
  | k + 1, h => by
    have ih := lnAt_le hg (k := k) (by omega)
    have := hg gs[k] (List.getElem_mem (by omega))
    rw [lnAt_step (by omega)]
    omega
theorem lnAt_lt {gs : List Int} (hg : ∀ g ∈ gs, 0 ≤ g ∧ g ≤ 255) {j : Nat} : ∀ {k : Nat}, j < k → k ≤ gs.length → lnAt (gs.take j) < lnAt (gs.take k)
  | 0, h, _ => by omega
  | k + 1, h, h2 => by
    have := hg gs[k] (List.getElem_mem (by omega))
    rw [lnAt_step (by omega)]
    by_cases hj : j = k
    · subst hj; omega
    · have := lnAt_lt hg (j := j) (k := k) (by omega) (by omega)
      omega

def lnP (gs : List Int) (k : Nat) : Per := ⟨1, 24276, 0, lnRecs gs k, []⟩
theorem wrap_zero : IntKind.i64.wrap 0 = 0 := by decide
theorem srch_one (p : Per) (h : p.id = 1) : srch (perCmp 1) [p] = 0 ∧ srchB (perCmp 1) [p] = true := by
  simp [srchB, srch_fuel, bsf, ltAt, perCmp, h, wrap_zero]
theorem ln_change {gs : List Int} (hg : ∀ g ∈ gs, 0 ≤ g ∧ g ≤ 255) (h30 : gs.length ≤ 30) {k : Nat} (hk : k < gs.length) : changeS [lnP gs k] 1 (lnRec gs k) = ([lnP gs (k + 1)], 0) := by
  obtain ⟨h1, h2⟩ := srch_one (lnP gs k) rfl
  obtain ⟨q1, q2⟩ := lnAt_le hg (k := k + 1) (by omega)
  have hb : hireBad 1 (lnRec gs k) = false := by
    simp [hireBad, rightB, bigB, periodB, lnRec]
    exact ⟨by omega, decide_eq_true (by omega)⟩
  have hr : recS (lnRecs gs k) (lnRec gs k) = lnRecs gs (k + 1) := by
    rw [lnRecs_step]
    refine recS_last fun x hx => ?_
    unfold lnRecs at hx
    simp only [List.mem_cons, List.mem_map, List.mem_range] at hx
    rcases hx with rfl | ⟨j, hj, rfl⟩
    · simp only [ln0, lnRec]; omega
    · have := lnAt_lt hg (j := j + 1) (k := k + 1) (by omega) (by omega)
      have := lnAt_le hg (k := j + 1) (by omega)
      simp only [lnRec]; omega
  unfold changeS
  rw [h1, h2, hb]
  simp only [List.getElem?_cons_zero, Option.getD_some]
  rw [if_neg (by decide), if_neg (by decide), if_neg (by simp only [lnP, lnRec]; omega)]
  simp only [lnP, hr, List.set_cons_zero]
theorem ln_at (gs : List Int) (k : Nat) {w : Int} (hw : 24276 ≤ w) : atS [lnP gs k] 1 w = ((lnRecs gs k).foldl (onStep w) ln0, 0) := by
  obtain ⟨h1, h2⟩ := srch_one (lnP gs k) rfl
  unfold atS findS
  rw [h1, h2]
  simp [lnP, lnRecs]
  omega
theorem ln_find (gs : List Int) (k : Nat) : findS [lnP gs k] 1 = (lnP gs k, 0) := by
  obtain ⟨h1, h2⟩ := srch_one (lnP gs k) rfl
  unfold findS
  rw [h1, h2]; rfl
theorem ln_hire (gs : List Int) : hireS [] 1 ln0 = ([lnP gs 0], 0) := by
  simp [hireS, srchB, srch_fuel, bsf, ln0, hireBad, rightB, bigB, periodB, lnP, lnRecs]

set_option maxHeartbeats 1000000 in
theorem line_ok (gs : List Int) (hg : ∀ g ∈ gs, 0 ≤ g ∧ g ≤ 255) (wh : Int) (hwh : 0 ≤ wh ∧ wh ≤ 65535) (hl : gs.length ≤ 9223372036854775807) : Gives Try.prog 7 [.d (.list 1 (gs.map (.int .u8))), .d (.int .u16 wh)] (.d (.bool true)) := by
  have h1 := hire_ok [] 1 ln0 (by simp)
  rw [ln_hire gs] at h1
  have h1' : Gives Try.prog 20 [.d (.agg [.nil]), .d (dI 1), .d ln0.enc] _ := Gives.le h1 (by simp [leA, FV.le, D.leL])
  obtain ⟨w, hw, hw0⟩ : ∃ w : Int, IntKind.i64.wrap (24276 + IntKind.i64.wrap (wh.tmod 8000)) = w ∧ 24276 ≤ w ∧ w ≤ 32275 := by
    have e1 : wh.tmod 8000 = wh % 8000 := Int.tmod_eq_emod_of_nonneg hwh.1
    have e2 : IntKind.i64.wrap (wh % 8000) = wh % 8000 := wrapI (by omega) (by omega)
    have e3 : IntKind.i64.wrap (24276 + wh % 8000) = 24276 + wh % 8000 := wrapI (by omega) (by omega)
    refine ⟨_, rfl, ?_⟩
    rw [e1, e2, e3]; omega
  have hA0 : lnAt [] = 24276 := rfl
  have hW0 : lnWant gs w 0 = 0 := by
    simp only [lnWant, lnRecs, List.range_zero, List.map_nil, List.foldl_cons, List.foldl_nil, onStep, ln0]
    split <;> rfl
  refine Gives.enter tabOk Try.func7 rfl (by show 2 ≤ 103; decide) ?_
  simp only [Try.f7]
  refine WpC.seq (WpC.ops tabOk (r := []) (by simp -implicitDefEqProofs [ln0, lnP, lnRec, hA0, hW0, hw] <;> rfl) rfl ?_)
  refine WpC.seq ?_
  refine WpC.seq (WpC.ops tabOk (r := []) (by simp -implicitDefEqProofs [ln0, lnP, lnRec, hA0, hW0, hw] <;> rfl) rfl ?_)
  refine WpC.condR (by simp -implicitDefEqProofs [ln0, lnP, lnRec, hA0, hW0, hw] <;> rfl) (by rfl) (fun c20 => ?_) (fun c20 => ?_)
  · have c20' := c20; first | simp only [dT, dF] at c20' | try simp at c20'
    refine WpC.seq ?_
    refine WpC.region ?_
    refine WpO.data (by simp) rfl (by simp -implicitDefEqProofs [ln0, lnP, lnRec, hA0, hW0, hw, c20] <;> rfl) (by simp -implicitDefEqProofs [ln0, lnP, lnRec, hA0, hW0, hw, c20] <;> rfl) (by simp -implicitDefEqProofs [ln0, lnP, lnRec, hA0, hW0, hw, c20] <;> rfl) call_19 (by simp) (awake13_ok) (by rfl) (by simp -implicitDefEqProofs [ln0, lnP, lnRec, hA0, hW0, hw, c20] <;> rfl) ?_
    refine WpO.run tabOk 1 (by simp -implicitDefEqProofs [ln0, lnP, lnRec, hA0, hW0, hw, c20] <;> first | exact ⟨rfl, rfl⟩ | rfl) ?_
    refine WpO.nil ?_
    refine WpC.ret ?_
    try simp only [blockQ, seqQ]
    refine retD_i (by simp -implicitDefEqProofs [ln0, lnP, lnRec, hA0, hW0, hw, c20] <;> rfl) (by simp -implicitDefEqProofs [ln0, lnP, lnRec, hA0, hW0, hw, c20] <;> rfl) ?_
    simp
  · have c20' := c20; first | simp only [dT, dF] at c20' | try simp at c20'
    have h30 : gs.length ≤ 30 := by omega
    have hat := at_ok [lnP gs gs.length] 1 w (by simp) (by simp [lnP, lnRecs]; omega)
    rw [ln_at gs gs.length hw0.1] at hat
    have hfi := findP_ok [lnP gs gs.length] 1 (by simp)
    rw [ln_find] at hfi
    have hwf : (List.foldl (onStep w) ⟨24276, 0, 0, 0, 0, 0, false⟩ (lnRecs gs gs.length)).base = lnWant gs w gs.length := rfl
    have hlr : (lnRecs gs gs.length).length = gs.length + 1 := by simp [lnRecs]
    have hwl : IntKind.i64.wrap ((gs.length : Int) + 1) = gs.length + 1 := wrapI (by omega) (by omega)
    refine WpC.skip ?_
    refine WpC.seq ?_
    refine WpC.region ?_
    refine WpO.run tabOk 2 (by simp -implicitDefEqProofs [ln0, lnP, lnRec, hA0, hW0, hw, c20, hwf, hlr, hwl] <;> first | exact ⟨rfl, rfl⟩ | rfl) ?_
    refine WpO.data (by simp) rfl (by simp -implicitDefEqProofs [ln0, lnP, lnRec, hA0, hW0, hw, c20, hwf, hlr, hwl] <;> rfl) (by simp -implicitDefEqProofs [ln0, lnP, lnRec, hA0, hW0, hw, c20, hwf, hlr, hwl] <;> rfl) (by simp -implicitDefEqProofs [ln0, lnP, lnRec, hA0, hW0, hw, c20, hwf, hlr, hwl] <;> rfl) call_20 (by simp) (h1') (by rfl) (by simp -implicitDefEqProofs [ln0, lnP, lnRec, hA0, hW0, hw, c20, hwf, hlr, hwl] <;> rfl) ?_
    refine WpO.run tabOk 6 (by simp -implicitDefEqProofs [ln0, lnP, lnRec, hA0, hW0, hw, c20, hwf, hlr, hwl] <;> first | exact ⟨rfl, rfl⟩ | rfl) ?_
    refine WpO.nil ?_
    refine WpC.seq (WpC.ops tabOk (r := []) (by simp -implicitDefEqProofs [ln0, lnP, lnRec, hA0, hW0, hw, c20, hwf, hlr, hwl] <;> rfl) rfl ?_)
    refine WpC.seq (WpC.ops tabOk (r := []) (by simp -implicitDefEqProofs [ln0, lnP, lnRec, hA0, hW0, hw, c20, hwf, hlr, hwl] <;> rfl) rfl ?_)
    refine WpC.seq ?_
    refine WpC.seq (WpC.ops tabOk (r := []) (by simp -implicitDefEqProofs [ln0, lnP, lnRec, hA0, hW0, hw, c20, hwf, hlr, hwl] <;> rfl) rfl ?_)
    refine WpC.block ?_
    refine WpC.loopK [0, 5, 6, 9, 32, 33] [7, 8, 34] (gs.length) (() : Unit) (fun k _ => [(7, .d (dI (lnAt (gs.take k)))), (8, .d (dI (lnWant gs w k))), (34, .d (.int .i64 k))]) (fun k _ => [.cells 57 [.d (encPes [lnP gs k])]]) (fun k _ => True) (by simp -implicitDefEqProofs [ln0, lnP, lnRec, hA0, hW0, hw, c20, hwf, hlr, hwl] <;> rfl) (Gh.cut' [7, 8, 34, 0, 5, 6, 9, 32, 33] 1 (by simp -implicitDefEqProofs [ln0, lnP, lnRec, hA0, hW0, hw, c20, hwf, hlr, hwl]) (by simp -implicitDefEqProofs [ln0, lnP, lnRec, hA0, hW0, hw, c20, hwf, hlr, hwl]) rfl (by simp) (by simp) (by simp)) (by simp) ?_
    rintro k ⟨⟩ hk hi
    simp only [List.cons_append, List.nil_append]
    refine WpC.seq (WpC.ops tabOk (r := []) (by simp -implicitDefEqProofs [ln0, lnP, lnRec, hA0, hW0, hw, c20, hwf, hlr, hwl] <;> rfl) rfl ?_)
    refine WpC.seq (WpC.condD (k < gs.length) (by simp -implicitDefEqProofs [ln0, lnP, lnRec, hA0, hW0, hw, c20, hwf, hlr, hwl] <;> omega) (fun hlt => ?_) (fun hge => ?_))
    · refine WpC.skip ?_
      have hkl : k < gs.length := by omega
      obtain ⟨g, hgk⟩ : ∃ g, gs[k] = g := ⟨_, rfl⟩
      have hgb : 0 ≤ g ∧ g ≤ 255 := hgk ▸ hg _ (List.getElem_mem hkl)
      have hle := lnAt_le hg (k := k) (by omega)
      have hg1 : IntKind.i64.wrap g = g := wrapI (by omega) (by omega)
      have hg2 : IntKind.i64.wrap (1 + g) = 1 + g := wrapI (by omega) (by omega)
      have hg3 : IntKind.i64.wrap (lnAt (gs.take k) + (1 + g)) = lnAt (gs.take (k + 1)) := by rw [lnAt_step hkl, hgk]; exact wrapI (by omega) (by omega)
      have hk1 : IntKind.i64.wrap ((k : Int) + 1) = k + 1 := wrapI (by omega) (by omega)
      have hc := change_ok [lnP gs k] 1 (lnRec gs k) (by simp) (by simp [lnP, lnRecs]; omega)
      rw [ln_change hg h30 hkl] at hc
      refine WpC.seq ?_
      refine WpC.block ?_
      refine WpC.seq (WpC.ops tabOk (r := []) (by simp -implicitDefEqProofs [ln0, lnP, lnRec, hA0, hW0, hw, c20, hwf, hlr, hwl, hlt, hkl, hgk, hg1, hg2, hg3, hk1] <;> rfl) rfl ?_)
      refine WpC.seq (WpC.ops tabOk (r := []) (by simp -implicitDefEqProofs [ln0, lnP, lnRec, hA0, hW0, hw, c20, hwf, hlr, hwl, hlt, hkl, hgk, hg1, hg2, hg3, hk1] <;> rfl) rfl ?_)
      refine WpC.seq ?_
      refine WpC.region ?_
      refine WpO.run tabOk 6 (by simp -implicitDefEqProofs [ln0, lnP, lnRec, hA0, hW0, hw, c20, hwf, hlr, hwl, hlt, hkl, hgk, hg1, hg2, hg3, hk1] <;> first | exact ⟨rfl, rfl⟩ | rfl) ?_
      refine WpO.data (by simp) rfl (by simp -implicitDefEqProofs [ln0, lnP, lnRec, hA0, hW0, hw, c20, hwf, hlr, hwl, hlt, hkl, hgk, hg1, hg2, hg3, hk1] <;> rfl) (by simp -implicitDefEqProofs [ln0, lnP, lnRec, hA0, hW0, hw, c20, hwf, hlr, hwl, hlt, hkl, hgk, hg1, hg2, hg3, hk1] <;> rfl) (by simp -implicitDefEqProofs [ln0, lnP, lnRec, hA0, hW0, hw, c20, hwf, hlr, hwl, hlt, hkl, hgk, hg1, hg2, hg3, hk1] <;> rfl) call_21 (by simp) (hc) (by rfl) (by simp -implicitDefEqProofs [ln0, lnP, lnRec, hA0, hW0, hw, c20, hwf, hlr, hwl, hlt, hkl, hgk, hg1, hg2, hg3, hk1] <;> rfl) ?_
      refine WpO.run tabOk 6 (by simp -implicitDefEqProofs [ln0, lnP, lnRec, hA0, hW0, hw, c20, hwf, hlr, hwl, hlt, hkl, hgk, hg1, hg2, hg3, hk1] <;> first | exact ⟨rfl, rfl⟩ | rfl) ?_
      refine WpO.nil ?_
      refine WpC.seq ?_
      refine WpC.seq (WpC.ops tabOk (r := []) (by simp -implicitDefEqProofs [ln0, lnP, lnRec, hA0, hW0, hw, c20, hwf, hlr, hwl, hlt, hkl, hgk, hg1, hg2, hg3, hk1] <;> rfl) rfl ?_)
      refine WpC.condF (by simp -implicitDefEqProofs [ln0, lnP, lnRec, hA0, hW0, hw, c20, hwf, hlr, hwl, hlt, hkl, hgk, hg1, hg2, hg3, hk1] <;> rfl) ?_
      refine WpC.skip ?_
      refine WpC.seq ?_
      refine WpC.seq (WpC.ops tabOk (r := []) (by simp -implicitDefEqProofs [ln0, lnP, lnRec, hA0, hW0, hw, c20, hwf, hlr, hwl, hlt, hkl, hgk, hg1, hg2, hg3, hk1] <;> rfl) rfl ?_)
      refine WpC.condR (by simp -implicitDefEqProofs [ln0, lnP, lnRec, hA0, hW0, hw, c20, hwf, hlr, hwl, hlt, hkl, hgk, hg1, hg2, hg3, hk1] <;> rfl) (by rfl) (fun c58 => ?_) (fun c58 => ?_)
      · have c58' := c58; first | simp only [dT, dF] at c58' | try simp at c58'
        refine WpC.ops tabOk (r := []) (by simp -implicitDefEqProofs [ln0, lnP, lnRec, hA0, hW0, hw, c20, hwf, hlr, hwl, hlt, hkl, hgk, hg1, hg2, hg3, hk1, c58] <;> rfl) rfl ?_
        refine WpC.ops tabOk (r := []) (by simp -implicitDefEqProofs [ln0, lnP, lnRec, hA0, hW0, hw, c20, hwf, hlr, hwl, hlt, hkl, hgk, hg1, hg2, hg3, hk1, c58] <;> rfl) rfl ?_
        refine WpC.ops tabOk (r := []) (by simp -implicitDefEqProofs [ln0, lnP, lnRec, hA0, hW0, hw, c20, hwf, hlr, hwl, hlt, hkl, hgk, hg1, hg2, hg3, hk1, c58] <;> rfl) rfl ?_
        exact ⟨hlt, (), trivial, Gh.cut' [7, 8, 34, 0, 5, 6, 9, 32, 33] 1 (by simp -implicitDefEqProofs [ln0, lnP, lnRec, hA0, hW0, hw, c20, hwf, hlr, hwl, hlt, hkl, hgk, hg1, hg2, hg3, hk1, c58, c20', c58', lnWant_step]) (by simp -implicitDefEqProofs [ln0, lnP, lnRec, hA0, hW0, hw, c20, hwf, hlr, hwl, hlt, hkl, hgk, hg1, hg2, hg3, hk1, c58, c20', c58', lnWant_step]) rfl (by simp) (by simp) (by simp)⟩
      · have c58' := c58; first | simp only [dT, dF] at c58' | try simp at c58'
        refine WpC.skip ?_
        refine WpC.ops tabOk (r := []) (by simp -implicitDefEqProofs [ln0, lnP, lnRec, hA0, hW0, hw, c20, hwf, hlr, hwl, hlt, hkl, hgk, hg1, hg2, hg3, hk1, c58] <;> rfl) rfl ?_
        refine WpC.ops tabOk (r := []) (by simp -implicitDefEqProofs [ln0, lnP, lnRec, hA0, hW0, hw, c20, hwf, hlr, hwl, hlt, hkl, hgk, hg1, hg2, hg3, hk1, c58] <;> rfl) rfl ?_
        exact ⟨hlt, (), trivial, Gh.cut' [7, 8, 34, 0, 5, 6, 9, 32, 33] 1 (by simp -implicitDefEqProofs [ln0, lnP, lnRec, hA0, hW0, hw, c20, hwf, hlr, hwl, hlt, hkl, hgk, hg1, hg2, hg3, hk1, c58, c20', c58', lnWant_step]) (by simp -implicitDefEqProofs [ln0, lnP, lnRec, hA0, hW0, hw, c20, hwf, hlr, hwl, hlt, hkl, hgk, hg1, hg2, hg3, hk1, c58, c20', c58', lnWant_step]) rfl (by simp) (by simp) (by simp)⟩
    · refine WpC.exit ?_
      have hkn : k = gs.length := by omega
      subst hkn
      refine WpC.seq ?_
      refine WpC.region ?_
      refine WpO.run tabOk 2 (by simp -implicitDefEqProofs [ln0, lnP, lnRec, hA0, hW0, hw, c20, hwf, hlr, hwl] <;> first | exact ⟨rfl, rfl⟩ | rfl) ?_
      refine WpO.data (by simp) rfl (by simp -implicitDefEqProofs [ln0, lnP, lnRec, hA0, hW0, hw, c20, hwf, hlr, hwl] <;> rfl) (by simp -implicitDefEqProofs [ln0, lnP, lnRec, hA0, hW0, hw, c20, hwf, hlr, hwl] <;> rfl) (by simp -implicitDefEqProofs [ln0, lnP, lnRec, hA0, hW0, hw, c20, hwf, hlr, hwl] <;> rfl) call_22 (by simp) (hat) (by rfl) (by simp -implicitDefEqProofs [ln0, lnP, lnRec, hA0, hW0, hw, c20, hwf, hlr, hwl] <;> rfl) ?_
      refine WpO.run tabOk 6 (by simp -implicitDefEqProofs [ln0, lnP, lnRec, hA0, hW0, hw, c20, hwf, hlr, hwl] <;> first | exact ⟨rfl, rfl⟩ | rfl) ?_
      refine WpO.nil ?_
      refine WpC.seq ?_
      refine WpC.region ?_
      refine WpO.run tabOk 1 (by simp -implicitDefEqProofs [ln0, lnP, lnRec, hA0, hW0, hw, c20, hwf, hlr, hwl] <;> first | exact ⟨rfl, rfl⟩ | rfl) ?_
      refine WpO.data (by simp) rfl (by simp -implicitDefEqProofs [ln0, lnP, lnRec, hA0, hW0, hw, c20, hwf, hlr, hwl] <;> rfl) (by simp -implicitDefEqProofs [ln0, lnP, lnRec, hA0, hW0, hw, c20, hwf, hlr, hwl] <;> rfl) (by simp -implicitDefEqProofs [ln0, lnP, lnRec, hA0, hW0, hw, c20, hwf, hlr, hwl] <;> rfl) call_23 (by simp) (hfi) (by rfl) (by simp -implicitDefEqProofs [ln0, lnP, lnRec, hA0, hW0, hw, c20, hwf, hlr, hwl] <;> rfl) ?_
      refine WpO.run tabOk 6 (by simp -implicitDefEqProofs [ln0, lnP, lnRec, hA0, hW0, hw, c20, hwf, hlr, hwl] <;> first | exact ⟨rfl, rfl⟩ | rfl) ?_
      refine WpO.nil ?_
      refine WpC.seq ?_
      refine WpC.val 4 (.d (.bool (true))) ?_ ?_
      · refine WpC.region ?_
        refine WpO.run tabOk 3 (by simp -implicitDefEqProofs [ln0, lnP, lnRec, hA0, hW0, hw, c20, hwf, hlr, hwl] <;> first | exact ⟨rfl, rfl⟩ | rfl) ?_
        refine WpO.splitB 76 (by simp -implicitDefEqProofs [ln0, lnP, lnRec, hA0, hW0, hw, c20, hwf, hlr, hwl] <;> rfl) (by rfl) (fun g76 => ?_) (fun g76 => ?_)
        · have g76' := g76; first | simp only [dT, dF] at g76' | try simp at g76'
          refine WpO.run tabOk 4 (by simp -implicitDefEqProofs [ln0, lnP, lnRec, hA0, hW0, hw, c20, hwf, hlr, hwl, g76] <;> first | exact ⟨rfl, rfl⟩ | rfl) ?_
          refine WpO.splitB 80 (by simp -implicitDefEqProofs [ln0, lnP, lnRec, hA0, hW0, hw, c20, hwf, hlr, hwl, g76] <;> rfl) (by rfl) (fun g80 => ?_) (fun g80 => ?_)
          · have g80' := g80; first | simp only [dT, dF] at g80' | try simp at g80'
            refine WpO.run tabOk 4 (by simp -implicitDefEqProofs [ln0, lnP, lnRec, hA0, hW0, hw, c20, hwf, hlr, hwl, g76, g80] <;> first | exact ⟨rfl, rfl⟩ | rfl) ?_
            refine WpO.splitB 84 (by simp -implicitDefEqProofs [ln0, lnP, lnRec, hA0, hW0, hw, c20, hwf, hlr, hwl, g76, g80] <;> rfl) (by rfl) (fun g84 => ?_) (fun g84 => ?_)
            · have g84' := g84; first | simp only [dT, dF] at g84' | try simp at g84'
              refine WpO.run tabOk 7 (by simp -implicitDefEqProofs [ln0, lnP, lnRec, hA0, hW0, hw, c20, hwf, hlr, hwl, g76, g80, g84] <;> first | exact ⟨rfl, rfl⟩ | rfl) ?_
              refine WpO.splitB 91 (by simp -implicitDefEqProofs [ln0, lnP, lnRec, hA0, hW0, hw, c20, hwf, hlr, hwl, g76, g80, g84] <;> rfl) (by rfl) (fun g91 => ?_) (fun g91 => ?_)
              · have g91' := g91; first | simp only [dT, dF] at g91' | try simp at g91'
                refine WpO.run tabOk 9 (by simp -implicitDefEqProofs [ln0, lnP, lnRec, hA0, hW0, hw, c20, hwf, hlr, hwl, g76, g80, g84, g91] <;> first | exact ⟨rfl, rfl⟩ | rfl) ?_
                refine WpO.splitB 100 (by simp -implicitDefEqProofs [ln0, lnP, lnRec, hA0, hW0, hw, c20, hwf, hlr, hwl, g76, g80, g84, g91] <;> rfl) (by rfl) (fun g100 => ?_) (fun g100 => ?_)
                · have g100' := g100; first | simp only [dT, dF] at g100' | try simp at g100'
                  refine WpO.data (by simp) rfl (by simp -implicitDefEqProofs [ln0, lnP, lnRec, hA0, hW0, hw, c20, hwf, hlr, hwl, g76, g80, g84, g91, g100] <;> rfl) (by simp -implicitDefEqProofs [ln0, lnP, lnRec, hA0, hW0, hw, c20, hwf, hlr, hwl, g76, g80, g84, g91, g100] <;> rfl) (by simp -implicitDefEqProofs [ln0, lnP, lnRec, hA0, hW0, hw, c20, hwf, hlr, hwl, g76, g80, g84, g91, g100] <;> rfl) call_19 (by simp) (awake13_ok) (by rfl) (by simp -implicitDefEqProofs [ln0, lnP, lnRec, hA0, hW0, hw, c20, hwf, hlr, hwl, g76, g80, g84, g91, g100] <;> rfl) ?_
                  refine WpO.run tabOk 2 (by simp -implicitDefEqProofs [ln0, lnP, lnRec, hA0, hW0, hw, c20, hwf, hlr, hwl, g76, g80, g84, g91, g100] <;> first | exact ⟨rfl, rfl⟩ | rfl) ?_
                  refine WpO.nil ?_
                  refine ⟨rfl, Gh.only 4 35 ?_ (by first | rfl | simp -implicitDefEqProofs [ln0, lnP, lnRec, hA0, hW0, hw, c20, hwf, hlr, hwl, g76, g80, g84, g91, g100]) (by rfl)⟩
                  simp -implicitDefEqProofs [ln0, lnP, lnRec, hA0, hW0, hw, c20, hwf, hlr, hwl, g76, g80, g84, g91, g100, g76', g80', g84', g91', g100']
                · exact absurd g100 (by simp)
              · exact absurd g91 (by simp)
            · exact absurd g84 (by simp)
          · exact absurd g80 (by simp)
        · exact absurd g76 (by simp)
      refine WpC.ret ?_
      try simp only [blockQ, seqQ]
      refine retD_i (by simp -implicitDefEqProofs [ln0, lnP, lnRec, hA0, hW0, hw, c20, hwf, hlr, hwl] <;> rfl) (by simp -implicitDefEqProofs [ln0, lnP, lnRec, hA0, hW0, hw, c20, hwf, hlr, hwl] <;> rfl) ?_
      simp
end Go.Proofs.Ytndofikacmhejaa.Pay
