/- What journal's functions give: sums of an entry; whether it may be posted. No statement of the seed is proved here. -/
import Derived.Test.YtndofikacmhejaaJoB
namespace Go.Proofs.Ytndofikacmhejaa.Pay
open Go Go.Proofs
set_option maxHeartbeats 8000000
set_option linter.unusedSimpArgs false

def dI (n : Int) : D := .int .i64 n
def encIs (l : List Int) : D := .list 1 (l.map dI)

def farB (l : List Int) : Bool := l.any fun n => decide (1125899906842624 < n) || decide (n < -1125899906842624)

theorem farB_take {l : List Int} {k : Nat} (h : k < l.length) : farB (l.take (k + 1)) = (farB (l.take k) || (decide (1125899906842624 < l[k]) || decide (l[k] < -1125899906842624))) := by
  unfold farB
  rw [List.take_add_one, List.getElem?_eq_getElem h]
  simp only [Option.toList_some, List.any_append, List.any_cons, List.any_nil, Bool.or_false]
theorem farB_at {l : List Int} {k : Nat} (h : k < l.length) (h1 : 1125899906842624 < l[k] ∨ l[k] < -1125899906842624) : farB l = true := by
  unfold farB
  rw [List.any_eq_true]
  exact ⟨l[k], List.getElem_mem h, by simpa using h1⟩

theorem far_ok (l : List Int) (hl : l.length ≤ 1000000000) : WpF Try.prog 52 [.d (encIs l)] [] (fun r S => r = .d (.bool (farB l)) ∧ S = []) := by
  refine WpF.enter tabOk Try.func52 rfl (by show 1 ≤ 18; decide) ?_
  simp only [Try.f52]
  refine WpC.seq (WpC.ops tabOk (r := []) (by simp -implicitDefEqProofs <;> rfl) rfl ?_)
  refine WpC.seq ?_
  refine WpC.seq (WpC.ops tabOk (r := []) (by simp -implicitDefEqProofs [encIs] <;> rfl) rfl ?_)
  refine WpC.block (WpC.countP l.length (fun k s => s = ⟨[(5, .d (encIs l)), (6, .d (.int .i64 l.length)), (7, .d (.int .i64 k))], [], 18, 0⟩ ∧ farB (l.take k) = false)
    ⟨_, Gh.cut' [5, 6, 7] 0 (by simp; rfl) rfl rfl rfl rfl (by simp), by simp [encIs], by simp [farB]⟩ fun k s hk ⟨hs, ht⟩ => ?_)
  subst hs
  refine WpC.seq (WpC.ops tabOk (r := []) (by simp -implicitDefEqProofs <;> rfl) rfl ?_)
  refine WpC.seq (WpC.condD (k < l.length) (by simp) (fun hlt => ?_) (fun hge => ?_))
  · refine WpC.skip ?_
    have hst := farB_take hlt
    have hat := @farB_at l k hlt
    rw [ht] at hst
    obtain ⟨n, hn⟩ : ∃ n, l[k] = n := ⟨_, rfl⟩
    rw [hn] at hst hat
    have hw : IntKind.i64.wrap ((k : Int) + 1) = k + 1 := wrapI (by omega) (by omega)
    refine WpC.seq (WpC.block ?_)
    refine WpC.seq (WpC.ops tabOk (r := []) (by simp -implicitDefEqProofs [encIs, dI, hn, hlt] <;> rfl) rfl ?_)
    by_cases h1 : 1125899906842624 < n
    · refine WpC.seq (WpC.ops tabOk (r := []) (by simp -implicitDefEqProofs [h1] <;> rfl) rfl ?_)
      refine WpC.condT (by simp) ?_
      refine WpC.seq (WpC.ops tabOk (r := []) (by simp -implicitDefEqProofs <;> rfl) rfl ?_)
      refine WpC.ret ?_
      simp [hat (.inl h1)]
    by_cases h2 : n < -1125899906842624
    · refine WpC.seq (WpC.ops tabOk (r := []) (by simp -implicitDefEqProofs [h1, h2] <;> rfl) rfl ?_)
      refine WpC.condT (by simp) ?_
      refine WpC.seq (WpC.ops tabOk (r := []) (by simp -implicitDefEqProofs <;> rfl) rfl ?_)
      refine WpC.ret ?_
      simp [hat (.inr h2)]
    · refine WpC.seq (WpC.ops tabOk (r := []) (by simp -implicitDefEqProofs [h1, h2] <;> rfl) rfl ?_)
      refine WpC.condF (by simp) (WpC.skip ?_)
      refine WpC.ops tabOk (r := []) (by simp -implicitDefEqProofs [hw] <;> rfl) rfl ?_
      exact ⟨hlt, _, Gh.cut' [5, 6, 7] 0 (by simp; rfl) rfl rfl rfl rfl (by simp), by simp [encIs, dI], by rw [hst]; simp [h1, h2]⟩
  · refine WpC.exit ?_
    refine WpC.seq (WpC.ops tabOk (r := []) (by simp -implicitDefEqProofs <;> rfl) rfl ?_)
    refine WpC.ret ?_
    have hkl : k = l.length := by omega
    subst hkl
    rw [List.take_of_length_le (Nat.le_refl _)] at ht
    simp [ht]

/-- An entry. -/
structure Ent where
  run : Int
  per : Int
  id : Int
  ctr : Int
  back : Int
  lines : List D
  rg : Int
  rp : Int
  rq : Int
  eg : Int
  ep : Int
  eq : Int
  txb : Int
  tax : Int
  taken : Int
  held : Int
  net : Int
  short : Int
  paid : List Int
  owed : List Int
  garn : List Int
  fixes : List D

def kL : Nat := 3
def kF : Nat := 4
def Ent.encR (e : Ent) : List D := [.list kL e.lines, dI e.rg, dI e.rp, dI e.rq, dI e.eg, dI e.ep, dI e.eq, dI e.txb, dI e.tax, dI e.taken, dI e.held, dI e.net, dI e.short, encIs e.paid, encIs e.owed, encIs e.garn]
def Ent.encC (e : Ent) : List D := [dI e.run, dI e.per, dI e.id, dI e.ctr, dI e.back] ++ e.encR ++ [.list kF e.fixes]
def Ent.enc (e : Ent) : D := .agg e.encC

/-- Short rows. -/
def Ent.brief (e : Ent) : Prop := e.lines.length ≤ 1000000 ∧ e.paid.length ≤ 1000 ∧ e.owed.length ≤ 1000 ∧ e.garn.length ≤ 1000 ∧ e.fixes.length ≤ 1000000
def Ent.okI (e : Ent) : Prop := inI e.rg ∧ inI e.rp ∧ inI e.eg ∧ inI e.ep ∧ inI e.tax ∧ inI e.taken ∧ inI e.net ∧ inI e.short ∧ inI e.back

def smallB (e : Ent) : Bool := decide ((e.lines.length : Int) ≤ 70) && decide ((e.paid.length : Int) ≤ 40) && decide ((e.owed.length : Int) ≤ 40) && decide ((e.garn.length : Int) ≤ 40) && decide ((e.fixes.length : Int) ≤ 40)

theorem small_ok (e : Ent) : WpF Try.prog 17 [.d e.enc] [] (fun r S => r = .d (.bool (smallB e)) ∧ S = []) := by
  refine WpF.enter tabOk Try.func17 rfl (by show 1 ≤ 35; decide) ?_
  simp only [Try.f17]
  refine WpC.seq (WpC.ops tabOk (r := []) (by simp -implicitDefEqProofs [Ent.enc, Ent.encC, Ent.encR, encIs] <;> rfl) rfl ?_)
  unfold smallB
  by_cases h1 : (e.lines.length : Int) ≤ 70
  · by_cases h2 : (e.paid.length : Int) ≤ 40
    · by_cases h3 : (e.owed.length : Int) ≤ 40
      · by_cases h4 : (e.garn.length : Int) ≤ 40
        · refine WpC.seq (WpC.ops tabOk (r := []) (by simp -implicitDefEqProofs [h1, h2, h3, h4] <;> rfl) rfl ?_)
          refine WpC.gh (Gh.cut' [2] 0 (by simp; rfl) rfl rfl rfl rfl (by simp)) (WpC.ret ?_)
          simp [h1, h2, h3, h4]
        · refine WpC.seq (WpC.ops tabOk (r := []) (by simp -implicitDefEqProofs [h1, h2, h3, h4] <;> rfl) rfl ?_)
          refine WpC.gh (Gh.cut' [2] 0 (by simp; rfl) rfl rfl rfl rfl (by simp)) (WpC.ret ?_)
          simp [h4]
      · refine WpC.seq (WpC.ops tabOk (r := []) (by simp -implicitDefEqProofs [h1, h2, h3] <;> rfl) rfl ?_)
        refine WpC.gh (Gh.cut' [2] 0 (by simp; rfl) rfl rfl rfl rfl (by simp)) (WpC.ret ?_)
        simp [h3]
    · refine WpC.seq (WpC.ops tabOk (r := []) (by simp -implicitDefEqProofs [h1, h2] <;> rfl) rfl ?_)
      refine WpC.gh (Gh.cut' [2] 0 (by simp; rfl) rfl rfl rfl rfl (by simp)) (WpC.ret ?_)
      simp [h2]
  · refine WpC.seq (WpC.ops tabOk (r := []) (by simp -implicitDefEqProofs [h1] <;> rfl) rfl ?_)
    refine WpC.gh (Gh.cut' [2] 0 (by simp; rfl) rfl rfl rfl rfl (by simp)) (WpC.ret ?_)
    simp [h1]

/-- What is owed in all; none: an amount is too far. -/
def owedS (paid : List Int) : Nat → List Int → Int → Option Int
  | _, [], acc => some acc
  | i, n :: r, acc => if (match paid[i]? with | some p => farB [IntKind.i64.wrap (p + n)] | none => false) = true then none else owedS paid (i + 1) r (IntKind.i64.wrap (acc + n))

def Ent.far (e : Ent) : Bool := farB [e.rg, e.eg, e.rp, e.ep, e.tax, e.taken, e.net, e.short] || farB e.paid || farB e.owed || farB e.garn

/-- Gross, pretax, what is owed; none: too far. -/
def sumsS (e : Ent) : Option (Int × Int × Int) :=
  if e.far = true then none else match owedS e.paid 0 e.owed 0 with
  | none => none
  | some o => if farB [IntKind.i64.wrap (e.rg + e.eg), IntKind.i64.wrap (e.rp + e.ep), o] = true then none else some (IntKind.i64.wrap (e.rg + e.eg), IntKind.i64.wrap (e.rp + e.ep), o)

theorem sums_ok (e : Ent) (hb : e.brief) : WpF Try.prog 32 [.d e.enc] [] (fun r S => S = [] ∧ ∃ a b c ok, r = .tup [.d (dI a), .d (dI b), .d (dI c), .d (.bool ok)] ∧ (match sumsS e with | none => ok = false | some (g, p, o) => ok = true ∧ a = g ∧ b = p ∧ c = o)) := by
  obtain ⟨hb1, hb2, hb3, hb4, hb5⟩ := hb
  obtain ⟨R, hR⟩ : ∃ R, sumsS e = R := ⟨_, rfl⟩
  rw [hR]
  unfold sumsS at hR
  refine WpF.enter tabOk Try.func32 rfl (by show 1 ≤ 102; decide) ?_
  simp only [Try.f32]
  refine WpC.seq (WpC.ops tabOk (r := []) (by simp -implicitDefEqProofs [Ent.enc, Ent.encC, Ent.encR, encIs, dI] <;> rfl) rfl ?_)
  refine WpC.seq (WpC.ops tabOk (r := []) (by simp -implicitDefEqProofs <;> rfl) rfl ?_)
  refine WpC.seq (WpC.seq (WpC.region ?_))
  refine WpO.run tabOk 21 (by simp -implicitDefEqProofs <;> exact ⟨rfl, rfl⟩) ?_
  refine WpO.callL (by simp) rfl (by simp -implicitDefEqProofs [encIs, dI] <;> rfl) (by simp -implicitDefEqProofs [encIs, dI] <;> rfl) (by simp -implicitDefEqProofs [encIs, dI] <;> rfl) call_52 (far_ok [e.rg, e.eg, e.rp, e.ep, e.tax, e.taken, e.net, e.short] (by simp)) fun r S1 hr => ?_
  obtain ⟨rfl, rfl⟩ := hr
  refine ⟨by simp, _, by simp <;> rfl, ?_⟩
  unfold Ent.far at hR
  cases h1 : farB [e.rg, e.eg, e.rp, e.ep, e.tax, e.taken, e.net, e.short] with
  | true =>
    refine WpO.run tabOk 15 (by simp -implicitDefEqProofs <;> exact ⟨rfl, rfl⟩) ?_
    refine WpO.nil (WpC.condT (by simp) ?_)
    refine WpC.seq (WpC.ops tabOk (r := []) (by simp -implicitDefEqProofs <;> rfl) rfl ?_)
    refine WpC.gh (Gh.cut' [2, 3, 4, 5] 0 (by simp; rfl) rfl rfl rfl rfl (by simp)) (WpC.ret ?_)
    rw [h1] at hR
    simp at hR
    simp [← hR, dI]
  | false =>
    refine WpO.run tabOk 3 (by simp -implicitDefEqProofs <;> exact ⟨rfl, rfl⟩) ?_
    refine WpO.callL (by simp) rfl (by simp -implicitDefEqProofs [encIs, dI] <;> rfl) (by simp -implicitDefEqProofs [encIs, dI] <;> rfl) (by simp -implicitDefEqProofs [encIs, dI] <;> rfl) call_52 (far_ok e.paid (by omega)) fun r S1 hr => ?_
    obtain ⟨rfl, rfl⟩ := hr
    refine ⟨by simp, _, by simp <;> rfl, ?_⟩
    cases h2 : farB e.paid with
    | true =>
      refine WpO.run tabOk 11 (by simp -implicitDefEqProofs <;> exact ⟨rfl, rfl⟩) ?_
      refine WpO.nil (WpC.condT (by simp) ?_)
      refine WpC.seq (WpC.ops tabOk (r := []) (by simp -implicitDefEqProofs <;> rfl) rfl ?_)
      refine WpC.gh (Gh.cut' [2, 3, 4, 5] 0 (by simp; rfl) rfl rfl rfl rfl (by simp)) (WpC.ret ?_)
      rw [h1, h2] at hR
      simp at hR
      simp [← hR, dI]
    | false =>
      refine WpO.run tabOk 4 (by simp -implicitDefEqProofs <;> exact ⟨rfl, rfl⟩) ?_
      refine WpO.callL (by simp) rfl (by simp -implicitDefEqProofs [encIs, dI] <;> rfl) (by simp -implicitDefEqProofs [encIs, dI] <;> rfl) (by simp -implicitDefEqProofs [encIs, dI] <;> rfl) call_52 (far_ok e.owed (by omega)) fun r S1 hr => ?_
      obtain ⟨rfl, rfl⟩ := hr
      refine ⟨by simp, _, by simp <;> rfl, ?_⟩
      cases h3 : farB e.owed with
      | true =>
        refine WpO.run tabOk 6 (by simp -implicitDefEqProofs <;> exact ⟨rfl, rfl⟩) ?_
        refine WpO.nil (WpC.condT (by simp) ?_)
        refine WpC.seq (WpC.ops tabOk (r := []) (by simp -implicitDefEqProofs <;> rfl) rfl ?_)
        refine WpC.gh (Gh.cut' [2, 3, 4, 5] 0 (by simp; rfl) rfl rfl rfl rfl (by simp)) (WpC.ret ?_)
        rw [h1, h2, h3] at hR
        simp at hR
        simp [← hR, dI]
      | false =>
        refine WpO.run tabOk 4 (by simp -implicitDefEqProofs <;> exact ⟨rfl, rfl⟩) ?_
        refine WpO.callL (by simp) rfl (by simp -implicitDefEqProofs [encIs, dI] <;> rfl) (by simp -implicitDefEqProofs [encIs, dI] <;> rfl) (by simp -implicitDefEqProofs [encIs, dI] <;> rfl) call_52 (far_ok e.garn (by omega)) fun r S1 hr => ?_
        obtain ⟨rfl, rfl⟩ := hr
        refine ⟨by simp, _, by simp <;> rfl, ?_⟩
        cases h4 : farB e.garn with
        | true =>
          refine WpO.run tabOk 1 (by simp -implicitDefEqProofs <;> exact ⟨rfl, rfl⟩) ?_
          refine WpO.nil (WpC.condT (by simp) ?_)
          refine WpC.seq (WpC.ops tabOk (r := []) (by simp -implicitDefEqProofs <;> rfl) rfl ?_)
          refine WpC.gh (Gh.cut' [2, 3, 4, 5] 0 (by simp; rfl) rfl rfl rfl rfl (by simp)) (WpC.ret ?_)
          rw [h1, h2, h3, h4] at hR
          simp at hR
          simp [← hR, dI]
        | false =>
          refine WpO.run tabOk 1 (by simp -implicitDefEqProofs <;> exact ⟨rfl, rfl⟩) ?_
          refine WpO.nil (WpC.condF (by simp) (WpC.skip ?_))
          rw [h1, h2, h3, h4] at hR
          simp only [Bool.or_self, Bool.false_eq_true, if_false] at hR
          obtain ⟨W, hW⟩ : ∃ W, owedS e.paid 0 e.owed 0 = W := ⟨_, rfl⟩
          rw [hW] at hR
          refine WpC.seq (WpC.ops tabOk (r := []) (by simp -implicitDefEqProofs <;> rfl) rfl ?_)
          refine WpC.seq ?_
          refine WpC.seq (WpC.ops tabOk (r := []) (by simp -implicitDefEqProofs <;> rfl) rfl ?_)
          refine WpC.block (WpC.countP e.owed.length (fun k s => ∃ acc, s = ⟨[(6, .ref 1 0), (7, .d (dI acc)), (52, .d (encIs e.owed)), (53, .d (dI e.owed.length)), (54, .d (dI k))], [.cells 45 (e.encC.map .d), .cells 42 (e.encR.map .d)], 102, 0⟩ ∧ owedS e.paid k (e.owed.drop k) acc = W)
            ⟨_, Gh.cut' [6, 7, 52, 53, 54] 2 (by simp; rfl) rfl rfl rfl rfl (by simp), 0, by simp [Ent.encC, Ent.encR, encIs, dI], by simpa using hW⟩ fun k s hk ⟨acc, hs, ht⟩ => ?_)
          subst hs
          refine WpC.seq (WpC.ops tabOk (r := []) (by simp -implicitDefEqProofs [dI] <;> rfl) rfl ?_)
          refine WpC.seq (WpC.condD (k < e.owed.length) (by simp) (fun hlt => ?_) (fun hge => ?_))
          · refine WpC.skip ?_
            rw [drop_cons hlt] at ht
            obtain ⟨n, hn⟩ : ∃ n, e.owed[k] = n := ⟨_, rfl⟩
            rw [hn] at ht
            unfold owedS at ht
            have hw : IntKind.i64.wrap ((k : Int) + 1) = k + 1 := wrapI (by omega) (by omega)
            refine WpC.seq (WpC.block ?_)
            refine WpC.seq (WpC.ops tabOk (r := []) (by simp -implicitDefEqProofs [encIs, dI, hn, hlt] <;> rfl) rfl ?_)
            refine WpC.seq (WpC.ops tabOk (r := []) (by simp -implicitDefEqProofs <;> rfl) rfl ?_)
            refine WpC.seq (WpC.region ?_)
            by_cases h5 : k < e.paid.length
            · obtain ⟨p, hp⟩ : ∃ p, e.paid[k] = p := ⟨_, rfl⟩
              have hp' : e.paid[k]? = some p := by rw [List.getElem?_eq_getElem h5, hp]
              simp only [hp'] at ht
              refine WpO.run tabOk 14 (by simp -implicitDefEqProofs [Ent.encR, encIs, dI, h5, hp] <;> exact ⟨rfl, rfl⟩) ?_
              refine WpO.callL (by simp) rfl (by simp -implicitDefEqProofs [encIs, dI] <;> rfl) (by simp -implicitDefEqProofs [encIs, dI] <;> rfl) (by simp -implicitDefEqProofs [encIs, dI] <;> rfl) call_52 (far_ok [IntKind.i64.wrap (p + n)] (by simp)) fun r S1 hr => ?_
              obtain ⟨rfl, rfl⟩ := hr
              refine ⟨by simp, _, by simp <;> rfl, ?_⟩
              refine WpO.run tabOk 1 (by simp -implicitDefEqProofs <;> exact ⟨rfl, rfl⟩) ?_
              refine WpO.nil ?_
              cases h6 : farB [IntKind.i64.wrap (p + n)] with
              | true =>
                refine WpC.condT (by simp) ?_
                refine WpC.seq (WpC.ops tabOk (r := []) (by simp -implicitDefEqProofs <;> rfl) rfl ?_)
                refine WpC.gh (Gh.cut' [2, 3, 4, 5] 0 (by simp; rfl) rfl rfl rfl rfl (by simp)) (WpC.ret ?_)
                simp only [h6, if_true] at ht
                rw [← ht] at hR
                simp at hR
                simp [← hR, dI]
              | false =>
                refine WpC.condF (by simp) (WpC.skip ?_)
                refine WpC.ops tabOk (r := []) (by simp -implicitDefEqProofs [hw] <;> rfl) rfl ?_
                simp only [h6, Bool.false_eq_true, if_false] at ht
                exact ⟨hlt, _, Gh.cut' [6, 7, 52, 53, 54] 2 (by simp; rfl) rfl rfl rfl rfl (by simp), _, by simp [Ent.encC, Ent.encR, encIs, dI], ht⟩
            · have hp' : e.paid[k]? = none := by rw [List.getElem?_eq_none_iff]; omega
              simp only [hp', Bool.false_eq_true, if_false] at ht
              refine WpO.run tabOk 16 (by simp -implicitDefEqProofs [Ent.encR, encIs, dI, h5] <;> exact ⟨rfl, rfl⟩) ?_
              refine WpO.nil ?_
              refine WpC.condF (by simp) (WpC.skip ?_)
              refine WpC.ops tabOk (r := []) (by simp -implicitDefEqProofs [hw] <;> rfl) rfl ?_
              exact ⟨hlt, _, Gh.cut' [6, 7, 52, 53, 54] 2 (by simp; rfl) rfl rfl rfl rfl (by simp), _, by simp [Ent.encC, Ent.encR, encIs, dI], ht⟩
          · refine WpC.exit ?_
            have hkl : k = e.owed.length := by omega
            subst hkl
            simp only [List.drop_length, owedS] at ht
            rw [← ht] at hR
            simp only at hR
            refine WpC.seq (WpC.opsD tabOk (by kernel_rfl) (by kernel_rfl) (by simp -implicitDefEqProofs [Ent.encC, Ent.encR, dI] <;> rfl) ?_)
            refine WpC.seq (WpC.region ?_)
            refine WpO.run tabOk 7 (by simp -implicitDefEqProofs <;> exact ⟨rfl, rfl⟩) ?_
            refine WpO.callL (by simp) rfl (by simp -implicitDefEqProofs [encIs, dI] <;> rfl) (by simp -implicitDefEqProofs [encIs, dI] <;> rfl) (by simp -implicitDefEqProofs [encIs, dI] <;> rfl) call_52 (far_ok [IntKind.i64.wrap (e.rg + e.eg), IntKind.i64.wrap (e.rp + e.ep), acc] (by simp)) fun r S1 hr => ?_
            obtain ⟨rfl, rfl⟩ := hr
            refine ⟨by simp, _, by simp <;> rfl, ?_⟩
            refine WpO.run tabOk 5 (by simp -implicitDefEqProofs <;> exact ⟨rfl, rfl⟩) ?_
            refine WpO.nil ?_
            refine WpC.gh (Gh.cut' [2, 3, 4, 5] 0 (by simp; rfl) rfl rfl rfl rfl (by simp)) (WpC.ret ?_)
            cases h6 : farB [IntKind.i64.wrap (e.rg + e.eg), IntKind.i64.wrap (e.rp + e.ep), acc] with
            | true =>
              rw [h6] at hR
              simp at hR
              simp [← hR, dI]
            | false =>
              rw [h6] at hR
              simp at hR
              simp [← hR, dI]
              exact ⟨_, _, _, ⟨rfl, rfl, rfl⟩, rfl, rfl, rfl⟩
end Go.Proofs.Ytndofikacmhejaa.Pay
