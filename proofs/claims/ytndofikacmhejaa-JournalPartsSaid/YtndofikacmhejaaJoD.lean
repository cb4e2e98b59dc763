/- What journal's functions give: the postings of an entry. No statement of the seed is proved here. -/
import Derived.Test.YtndofikacmhejaaJoC
namespace Go.Proofs.Ytndofikacmhejaa.Pay
open Go Go.Proofs
set_option maxHeartbeats 8000000
set_option linter.unusedSimpArgs false

/-- An order. -/
structure Ord where
  cred : Int
  kind : Int
  amt : Int
  rank : Int
def Ord.enc (o : Ord) : D := .agg [dI o.cred, dI o.kind, dI o.amt, dI o.rank]
def encOs (l : List Ord) : D := .list 4 (l.map Ord.enc)

def credOk (o : Ord) : Bool := !(decide (o.cred < 1) || decide (999 < o.cred))

def checkS (e : Ent) (l : List Ord) : Bool :=
  if 6 < (e.paid.length : Int) ∨ ¬ (e.paid.length : Int) = e.owed.length ∨ (l.length : Int) < e.garn.length then false else (l.take e.garn.length).all credOk

theorem all_take {l : List Ord} {k : Nat} (h : k < l.length) : (l.take (k + 1)).all credOk = ((l.take k).all credOk && credOk l[k]) := by
  rw [List.take_add_one, List.getElem?_eq_getElem h]
  simp only [Option.toList_some, List.all_append, List.all_cons, List.all_nil, Bool.and_true]
theorem all_at {l : List Ord} {k m : Nat} (h : k < l.length) (hm : k < m) (hc : credOk l[k] = false) : (l.take m).all credOk = false := by
  rw [List.all_eq_false]
  exact ⟨l[k], List.mem_take_iff_getElem.2 ⟨k, by omega, rfl⟩, by simp [hc]⟩

theorem check_ok (e : Ent) (l : List Ord) (hb : e.brief) (hl : l.length ≤ 1000000) : WpF Try.prog 33 [.d e.enc, .d (encOs l)] [] (fun r S => r = .d (.bool (checkS e l)) ∧ S = []) := by
  obtain ⟨hb1, hb2, hb3, hb4, hb5⟩ := hb
  obtain ⟨R, hR⟩ : ∃ R, checkS e l = R := ⟨_, rfl⟩
  rw [hR]
  unfold checkS at hR
  refine WpF.enter tabOk Try.func33 rfl (by show 2 ≤ 51; decide) ?_
  simp only [Try.f33]
  refine WpC.seq (WpC.ops tabOk (r := []) (by simp -implicitDefEqProofs [Ent.enc, Ent.encC, Ent.encR, encIs, dI] <;> rfl) rfl ?_)
  refine WpC.seq (WpC.ops tabOk (r := []) (by simp -implicitDefEqProofs <;> rfl) rfl ?_)
  refine WpC.seq ?_
  by_cases h1 : 6 < (e.paid.length : Int)
  · refine WpC.seq (WpC.ops tabOk (r := []) (by simp -implicitDefEqProofs [h1] <;> rfl) rfl ?_)
    refine WpC.condT (by simp) ?_
    refine WpC.seq (WpC.ops tabOk (r := []) (by simp -implicitDefEqProofs <;> rfl) rfl ?_)
    refine WpC.gh (Gh.cut' [4] 0 (by simp; rfl) rfl rfl rfl rfl (by simp)) (WpC.ret ?_)
    rw [if_pos (.inl h1)] at hR
    simp [← hR]
  by_cases h2 : (e.paid.length : Int) = e.owed.length
  · by_cases h3 : (l.length : Int) < e.garn.length
    · refine WpC.seq (WpC.ops tabOk (r := []) (by simp -implicitDefEqProofs [h1, h2, h3, encOs, (show ¬ 6 < (e.owed.length : Int) by omega)] <;> rfl) rfl ?_)
      refine WpC.condT (by simp) ?_
      refine WpC.seq (WpC.ops tabOk (r := []) (by simp -implicitDefEqProofs <;> rfl) rfl ?_)
      refine WpC.gh (Gh.cut' [4] 0 (by simp; rfl) rfl rfl rfl rfl (by simp)) (WpC.ret ?_)
      rw [if_pos (.inr (.inr h3))] at hR
      simp [← hR]
    · refine WpC.seq (WpC.ops tabOk (r := []) (by simp -implicitDefEqProofs [h1, h2, h3, encOs, (show ¬ 6 < (e.owed.length : Int) by omega)] <;> rfl) rfl ?_)
      refine WpC.condF (by simp [h3]) (WpC.skip ?_)
      rw [if_neg (by omega)] at hR
      refine WpC.seq ?_
      refine WpC.seq (WpC.ops tabOk (r := []) (by simp -implicitDefEqProofs <;> rfl) rfl ?_)
      refine WpC.block (WpC.countP e.garn.length (fun k s => s = ⟨[(1, .d (encOs l)), (32, .d (dI e.garn.length)), (33, .d (dI k))], [], 51, 0⟩ ∧ (l.take k).all credOk = true)
        ⟨_, Gh.cut' [1, 32, 33] 0 (by simp; rfl) rfl rfl rfl rfl (by simp), by simp [encOs, dI], by simp⟩ fun k s hk ⟨hs, ht⟩ => ?_)
      subst hs
      refine WpC.seq (WpC.ops tabOk (r := []) (by simp -implicitDefEqProofs [dI] <;> rfl) rfl ?_)
      refine WpC.seq (WpC.condD (k < e.garn.length) (by simp) (fun hlt => ?_) (fun hge => ?_))
      · refine WpC.skip ?_
        have hkl : k < l.length := by omega
        have hst := all_take hkl
        have hat := @all_at l k e.garn.length hkl hlt
        rw [ht, Bool.true_and] at hst
        obtain ⟨o, hn⟩ : ∃ o, l[k] = o := ⟨_, rfl⟩
        rw [hn] at hst hat
        have hw : IntKind.i64.wrap ((k : Int) + 1) = k + 1 := wrapI (by omega) (by omega)
        refine WpC.seq (WpC.block ?_)
        refine WpC.seq (WpC.ops tabOk (r := []) (by simp -implicitDefEqProofs <;> rfl) rfl ?_)
        by_cases h4 : o.cred < 1
        · refine WpC.seq (WpC.ops tabOk (r := []) (by simp -implicitDefEqProofs [encOs, Ord.enc, dI, hn, hkl, h4] <;> rfl) rfl ?_)
          refine WpC.condT (by simp) ?_
          refine WpC.seq (WpC.ops tabOk (r := []) (by simp -implicitDefEqProofs <;> rfl) rfl ?_)
          refine WpC.gh (Gh.cut' [4] 0 (by simp; rfl) rfl rfl rfl rfl (by simp)) (WpC.ret ?_)
          rw [hat (by simp [credOk, h4])] at hR
          simp [← hR]
        by_cases h5 : 999 < o.cred
        · refine WpC.seq (WpC.ops tabOk (r := []) (by simp -implicitDefEqProofs [encOs, Ord.enc, dI, hn, hkl, h4, h5] <;> rfl) rfl ?_)
          refine WpC.condT (by simp) ?_
          refine WpC.seq (WpC.ops tabOk (r := []) (by simp -implicitDefEqProofs <;> rfl) rfl ?_)
          refine WpC.gh (Gh.cut' [4] 0 (by simp; rfl) rfl rfl rfl rfl (by simp)) (WpC.ret ?_)
          rw [hat (by simp [credOk, h5])] at hR
          simp [← hR]
        · refine WpC.seq (WpC.ops tabOk (r := []) (by simp -implicitDefEqProofs [encOs, Ord.enc, dI, hn, hkl, h4, h5] <;> rfl) rfl ?_)
          refine WpC.condF (by simp) (WpC.skip ?_)
          refine WpC.ops tabOk (r := []) (by simp -implicitDefEqProofs [hw] <;> rfl) rfl ?_
          exact ⟨hlt, _, Gh.cut' [1, 32, 33] 0 (by simp; rfl) rfl rfl rfl rfl (by simp), by simp [encOs, Ord.enc, dI], by rw [hst]; simp [credOk, h4, h5]⟩
      · refine WpC.exit ?_
        refine WpC.seq (WpC.ops tabOk (r := []) (by simp -implicitDefEqProofs <;> rfl) rfl ?_)
        refine WpC.gh (Gh.cut' [4] 0 (by simp; rfl) rfl rfl rfl rfl (by simp)) (WpC.ret ?_)
        have hkl : k = e.garn.length := by omega
        subst hkl
        rw [ht] at hR
        simp [← hR]
  · refine WpC.seq (WpC.ops tabOk (r := []) (by simp -implicitDefEqProofs [h1, h2] <;> rfl) rfl ?_)
    refine WpC.condT (by simp [h2]) ?_
    refine WpC.seq (WpC.ops tabOk (r := []) (by simp -implicitDefEqProofs <;> rfl) rfl ?_)
    refine WpC.gh (Gh.cut' [4] 0 (by simp; rfl) rfl rfl rfl rfl (by simp)) (WpC.ret ?_)
    rw [if_pos (.inr (.inl h2))] at hR
    simp [← hR]

/-- What is put. -/
def putS (ctr sign : Int) (account n : Int) : List Pst := if n = 0 then [] else [⟨account, ctr, IntKind.i64.wrap (sign * n)⟩]

theorem put_ok (e : Ent) (sign account n : Int) (xs : List Pst) (hx : xs.length ≤ 1000000) :
    WpF Try.prog 34 [.d (dI account), .d (dI n), .ref 0 0, .ref 1 0, .ref 2 0] [.cells 22 [.sl 3 xs.length], .cells 45 (e.encC.map .d), .cells 3 [.d (dI sign)], .arr 34 3 (xs.map Pst.enc)]
      (fun r S => r = .tup [] ∧ ((n = 0 ∧ S = [.cells 22 [.sl 3 xs.length], .cells 45 (e.encC.map .d), .cells 3 [.d (dI sign)], .arr 34 3 (xs.map Pst.enc)]) ∨
        (n ≠ 0 ∧ S = [.cells 22 [.sl 4 (xs.length + 1)], .cells 45 (e.encC.map .d), .cells 3 [.d (dI sign)], .gone, .arr 34 3 ((xs ++ [Pst.mk account e.ctr (IntKind.i64.wrap (sign * n))]).map Pst.enc)]))) := by
  refine WpF.enter tabOk Try.func34 rfl (by show 5 ≤ 19; decide) ?_
  simp only [Try.f34]
  refine WpC.seq (WpC.ops tabOk (r := []) (by simp -implicitDefEqProofs [dI] <;> rfl) rfl ?_)
  refine WpC.condD (n ≠ 0) (by simp) (fun h1 => ?_) (fun h1 => ?_)
  · refine WpC.region ?_
    refine WpO.run tabOk 11 (by simp -implicitDefEqProofs [dI, Ent.encC, Ent.encR, h1, (show xs.length ≤ 8589934591 by omega)] <;> exact ⟨rfl, rfl⟩) ?_
    refine WpO.gh (Gh.pick [] [0, 1, 2, 3, 5] (env' := []) (S' := [.cells 22 [.sl 4 (xs.length + 1)], .cells 45 (e.encC.map .d), .cells 3 [.d (dI sign)], .gone, .arr 34 3 ((xs ++ [Pst.mk account e.ctr (IntKind.i64.wrap (sign * n))]).map Pst.enc)])
      rfl rfl (by decide) (by simp) (by simp; rfl) (by simp [Ent.encC, Ent.encR, dI, Pst.enc, List.take_of_length_le]) (by decide)) (WpO.nil ?_)
    simp [h1]
  · refine WpC.skip ?_
    have h2 : n = 0 := by omega
    simp [h2, Ent.encC, Ent.encR, dI]

theorem putS_zero (c g a : Int) : putS c g a 0 = [] := by simp [putS]
theorem putS_nz {c g a n : Int} (h : n ≠ 0) : putS c g a n = [Pst.mk a c (IntKind.i64.wrap (g * n))] := by simp [putS, h]

/-- The postings. -/
def postsS (e : Ent) (l : List Ord) (g p o : Int) (sign : Int) : List Pst :=
  putS e.ctr sign 4000 g ++ putS e.ctr sign 4100 o ++ putS e.ctr sign 1700 e.short ++ putS e.ctr sign 2000 (IntKind.i64.wrap (-e.net)) ++ putS e.ctr sign 2100 (IntKind.i64.wrap (-e.tax)) ++
  ((List.range e.paid.length).flatMap fun (i : Nat) => putS e.ctr sign (2200 + (i : Int)) (IntKind.i64.wrap (IntKind.i64.wrap (-(e.paid.getD i 0)) - e.owed.getD i 0))) ++
  putS e.ctr sign 2300 (IntKind.i64.wrap (-p)) ++ putS e.ctr sign 2400 (IntKind.i64.wrap (-e.taken)) ++
  ((List.range e.garn.length).flatMap fun (i : Nat) => putS e.ctr sign (IntKind.i64.wrap (3000 + ((l[i]?).map Ord.cred).getD 0)) (IntKind.i64.wrap (-(e.garn.getD i 0))))

/-- The objects of Of while it puts: the entry, the sign, the row's variable, the result, the row. -/
def ofO (e : Ent) (sign : Int) (xs : List Pst) : List Ob :=
  [.cells 45 (e.encC.map .d), .cells 3 [.d (dI sign)], .cells 22 [.sl 4 xs.length], .cells 42 (e.encR.map .d), .arr 34 3 (xs.map Pst.enc)]

theorem rens_d (σ : Nat → Nat) : ∀ cs : List D, rens σ (cs.map .d) = cs.map .d
  | [] => by simp
  | x :: r => by simp [rens_d σ r]
theorem belows_d (n : Nat) : ∀ cs : List D, belows n (cs.map .d) = true
  | [] => by simp
  | x :: r => by simp [belows_d n r]

theorem put_call {all : Array Oper} {rest : List Oper} {o : Oper} {env : List (Nat × FV)} {nt : Nat} {Q : Exit → St → Prop} {e : Ent} {sign account n : Int} {xs : List Pst} {fx x y : Operand} {ts : Array TypeId} {d : Nat} (hx : xs.length ≤ 1000000) (hg : o.guard = none) (hd : o.dst = some d) (hdn : d < nt)
    (ho : o.op = .call { callee := .value fx, args := #[x, y], argTypes := ts }) (hf : evX ⟨env, ofO e sign xs, nt, 0⟩ fx = some (.fn 34 [.ref 2 0, .ref 0 0, .ref 1 0]))
    (hxa : evX ⟨env, ofO e sign xs, nt, 0⟩ x = some (.d (dI account))) (hya : evX ⟨env, ofO e sign xs, nt, 0⟩ y = some (.d (dI n))) (hb : belowE 4 env = true)
    (k : WpO Try.prog all rest ⟨(d, .tup []) :: env, ofO e sign (xs ++ putS e.ctr sign account n), nt, 0⟩ Q) : WpO Try.prog all (o :: rest) ⟨env, ofO e sign xs, nt, 0⟩ Q := by
  refine WpO.callP [2, 0, 1, 4] (xs := [.d (dI account), .d (dI n)]) (by simp [hg]) ho hf (by show evXs _ [x, y] = _; simp only [evXs, hxa, hya, Option.bind_some, Option.map_some]) call_34 (Nat.zero_le _) (by decide) (by simp [ofO]) (cargs := [.d (dI account), .d (dI n), .ref 0 0, .ref 1 0, .ref 2 0])
    (by simp [ofO]) (by simp [ofO]; rfl) (by simp [ofO, rens_d]) (put_ok e sign account n xs hx) fun r S1 hr => ?_
  have hb' : belowE 4 ((d, .tup []) :: env) = true := by simp [hb]
  obtain ⟨rfl, ⟨hn, rfl⟩ | ⟨hn, rfl⟩⟩ := hr
  · refine ⟨_, by simp [ofO, hd, hdn, rens_d]; rfl, ?_⟩
    subst hn
    rw [putS_zero, List.append_nil] at k
    exact k
  · refine ⟨_, by simp [ofO, hd, hdn, rens_d]; rfl, ?_⟩
    rw [putS_nz hn] at k
    exact WpO.gh (Gh.pickE 4 [0, 1, 2, 3, 5] hb' (by decide) (by decide) (by simp) (by simp; rfl) (by simp [ofO, rens_d]) (Nat.zero_le _)) k
end Go.Proofs.Ytndofikacmhejaa.Pay
