/- The texts PayX, PayY, PayT, PayP, SpF, SpG, one behind the other. No statement of the seed is proved here. -/
import Derived.Test.YtaobnhenjldjeaaProg
import Derived.KernelRfl
import Derived.Lib.Mul64
import Derived.Laws.Bits64b
import Derived.Test.YtaobnhenjldjeaaMgD
/- Regions that draw their order: how they are walked. No statement of the seed is proved here. -/
namespace Go.Proofs.Ytaobnhenjldjeaa.Pay
open Go Go.RowKit
set_option linter.unusedSimpArgs false
set_option linter.unusedVariables false

/-- What the test asks of an event. -/
structure TrC where
  i : Nat
  mids : List Nat
  ids : List Nat
  nid : Nat
  rd : List Nat
  sh : List Nat
  st : Bool

def cD (ops : Array Oper) (t : TrC) : Option Nat := (ops[t.i]?).bind (·.dst)
def cL (ops : Array Oper) (t : TrC) : List Nat := match ops[t.i]? with
  | none => []
  | some o => looks ops o
def shpC (tr : List TrC) (i : Nat) : Bool := tr.all fun u => u.st || !u.mids.contains i
def touchC (ops : Array Oper) (tr : List TrC) (t u : TrC) : Bool :=
  (match cD ops u with | some d => (cL ops t).contains d || cD ops t == some d | none => false) || u.mids.any (fun i => t.rd.contains i || t.mids.contains i) || t.sh.any (fun i => !shpC tr i && u.mids.contains i) ||
    (t.mids.contains t.nid && u.ids.contains t.nid)
def pairC (ops : Array Oper) (tr : List TrC) (t u : TrC) : Bool :=
  u.i == t.i || !touchC ops tr t u || (if u.i < t.i then dep2 ops t.i u.i && !(t.mids.contains t.nid && (u.ids.contains t.nid || u.mids.contains t.nid)) else dep2 ops u.i t.i)
def chkC (ops : Array Oper) (N0 N1 : Nat) (tr : List TrC) : Bool :=
  tr.length == ops.size && (List.range ops.size).all (fun i => match ops[i]? with | none => true | some o => o.after.all fun e => !Region.binds .any e || decide (e.on < i)) &&
    tr.all fun t => (!t.mids.contains t.nid || decide (N0 ≤ t.nid ∧ t.nid < N1)) && tr.all fun u => pairC ops tr t u

def TrE.c (t : TrE) : TrC := ⟨t.i, t.mids, evIds t.e, t.nid, t.rd, t.sh, t.st⟩

def isStore : Op → Bool
  | .store _ _ _ => true
  | _ => false

/-- A walk in text order. -/
def DrO (P : Program) (T : Nat → Option TI) (ops : Array Oper) : List Oper → St → Nat → List TrC → (St → List TrC → Prop) → Prop
  | [], s, _, tr, K => K s tr
  | o :: l, s, nid, tr, K => ∃ e rd sh st nid', EvOk P T ops o s nid e rd sh ∧ (st = true → ∀ i : Nat, ((e.app o.dst s).S[i]?).map shp = (s.S[i]?).map shp) ∧
      DrO P T ops l (e.app o.dst s) nid' (⟨tr.length, e.mods.map (·.1), evIds e, nid, rd, sh, st⟩ :: tr) K

section
variable {P : Program} {T : Nat → Option TI} {w w' : World} {I I' : Nat → Prop} {L L' : List Lay} {s s' s1 s2 s0 : St} {a : Act} {all ops : Array Oper} {o : Oper} {rest : List Oper} {Q : Exit → St → Prop} {c : Code} {X Y : Nat → Bool} {K : St → List TrC → Prop} {tr : List TrC} {nid : Nat}

theorem tr_lk {t : TrE} {tr : List TrE} (htr : TrOk P T ops s0 tr) (h : t ∈ tr) : t.d = cD ops t.c ∧ t.lk = cL ops t.c := by
  induction tr with
  | nil => simp at h
  | cons x r ih =>
    rcases List.mem_cons.1 h with rfl | h
    · obtain ⟨_, _, o, ho, hd, hl, _⟩ := htr
      simp [cD, cL, TrE.c, ho, hd, hl]
    · exact ih htr.1 h

theorem chk_eq {tr : List TrE} {N0 N1 : Nat} (htr : TrOk P T ops s0 tr) : chkC ops N0 N1 (tr.map TrE.c) = chkB ops N0 N1 tr := by
  have hsh : ∀ i, shpC (tr.map TrE.c) i = shpB tr i := fun i => by
    unfold shpC shpB
    rw [List.all_map]; rfl
  have htc : ∀ t ∈ tr, ∀ u ∈ tr, touchC ops (tr.map TrE.c) t.c u.c = touchB tr t u := fun t ht u hu => by
    unfold touchC touchB
    rw [← (tr_lk htr ht).1, ← (tr_lk htr ht).2, ← (tr_lk htr hu).1]
    simp only [hsh]
    rfl
  have hpc : ∀ t ∈ tr, ∀ u ∈ tr, pairC ops (tr.map TrE.c) t.c u.c = pairB ops tr t u := fun t ht u hu => by
    unfold pairC pairB
    rw [htc t ht u hu]; rfl
  have hall : ∀ (f g : TrE → Bool), (∀ t ∈ tr, f t = g t) → tr.all f = tr.all g := by
    intro f g
    clear hsh htc hpc htr
    induction tr with
    | nil => intro _; rfl
    | cons x r ih => intro h; simp only [List.all_cons]; rw [h x (by simp), ih fun t ht => h t (by simp [ht])]
  unfold chkC chkB
  rw [List.length_map, List.all_map]
  congr 1
  refine hall _ _ fun t ht => ?_
  show (_ && (tr.map TrE.c).all _) = _
  rw [List.all_map]
  congr 1
  exact hall _ _ fun u hu => hpc t ht u hu

theorem dr_tr : ∀ {l : List Oper} {s : St} {nid : Nat} {trE : List TrE}, (∀ j, l[j]? = ops[trE.length + j]?) → TrOk P T ops s0 trE → stX (fun _ => true) s0 trE = s → DrO P T ops l s nid (trE.map TrE.c) K →
    ∃ tr2, TrOk P T ops s0 tr2 ∧ K (stX (fun _ => true) s0 tr2) (tr2.map TrE.c)
  | [], s, nid, trE, _, htr, hs, h => ⟨trE, htr, by rw [hs]; exact h⟩
  | o :: l, s, nid, trE, hl, htr, hs, h => by
    obtain ⟨e, rd, sh, st, nid', hev, hst, hrest⟩ := h
    have ho : ops[trE.length]? = some o := by simpa using (hl 0).symm
    refine dr_tr (trE := ⟨trE.length, o.dst, looks ops o, e, nid, rd, sh, st⟩ :: trE) (s := e.app o.dst s) (nid := nid') (l := l) (fun j => ?_) ⟨htr, rfl, o, ho, rfl, rfl, by rw [hs]; exact hev, by rw [hs]; exact hst⟩ ?_ ?_
    · have := hl (j + 1)
      simpa [Nat.add_assoc, Nat.add_comm 1 j] using this
    · simp only [stX, if_true]; rw [hs]
    · simpa [TrE.c, TrE.mids] using hrest

/-- A region that draws its order, walked in text order; m: how many objects are new. -/
theorem WpC.drawn (hT : TabOk P T) (hm : P.follows .mixedOrders = true) {id : Nat} (m : Nat) (hp : s.pin ≤ s.S.length)
    (h : DrO P T ops ops.toList ⟨s.env, s.S ++ List.replicate m .gone, s.nt, s.pin⟩ s.S.length [] fun s1 tr => chkC ops s.S.length (s.S.length + m) tr = true ∧ Q .normal s1) : WpC P (.region id ops true) s Q := fun w I L a hs => by
  obtain ⟨tr, htr, hck, hq⟩ := dr_tr (s0 := ⟨s.env, s.S ++ List.replicate m .gone, s.nt, s.pin⟩) (trE := []) (by simp) trivial rfl h
  rw [chk_eq htr] at hck
  obtain ⟨ids1, ids2⟩ := hs.ids
  have hgetS : ∀ (i : Nat) (ob : Ob), (s.S ++ List.replicate m Ob.gone)[i]? = some ob → s.S[i]? = some ob ∨ ob = .gone := by
    intro i ob hi
    by_cases hlt : i < s.S.length
    · rw [List.getElem?_append_left hlt] at hi; exact .inl hi
    · rw [List.getElem?_append_right (by omega), List.getElem?_replicate] at hi
      split at hi
      · cases hi; exact .inr rfl
      · cases hi
  have howns : ∀ (S : List Ob) (L : List Lay), S.length = L.length → owns (S ++ List.replicate m Ob.gone) (L ++ List.replicate m (Lay.z none)) = owns S L := by
    intro S
    induction S with
    | nil =>
      intro L hl
      have : L = [] := List.eq_nil_of_length_eq_zero (by simpa using hl.symm)
      subst this
      simp only [List.nil_append, owns]
      clear h hck hq htr hgetS
      induction m with
      | zero => rfl
      | succ m ih => simp only [List.replicate_succ, owns, own, List.nil_append]; exact ih
    | cons o S ih =>
      intro L hl
      cases L with
      | nil => simp at hl
      | cons l L => simp only [List.cons_append, owns]; rw [ih L (by simpa using hl)]
  have hw : SR { w with drawn := w.drawn + 1 } I L s a := hs.world (fun _ _ => rfl) (fun _ _ => rfl) (Nat.le_refl _)
  have hLext : ∀ (i : Nat) (l : Lay), L[i]? = some l → (L ++ List.replicate m (Lay.z none))[i]? = some l := fun i l hl => by
    rw [List.getElem?_append_left (List.getElem?_eq_some_iff.1 hl).1]; exact hl
  have hs0 : SR { w with drawn := w.drawn + 1 } I (L ++ List.replicate m (Lay.z none)) ⟨s.env, s.S ++ List.replicate m .gone, s.nt, s.pin⟩ a := by
    refine ⟨fun t x hx => VRel.mono (fun _ _ => rfl) (fun _ h => h) hLext _ _ (hw.env t x hx), hw.nt, by simp [hw.len], fun i ob l h1 h2 => ?_, ?_, ?_, hw.imm, hw.defers⟩
    · rcases hgetS i ob h1 with h1' | rfl
      · have hlt : i < L.length := by rw [hs.len]; exact (List.getElem?_eq_some_iff.1 h1').1
        rw [List.getElem?_append_left hlt] at h2
        exact ORel.mono (fun _ _ => rfl) (fun _ h => h) hLext (fun _ _ => rfl) (hw.obs i ob l h1' h2)
      · trivial
    · rw [howns _ _ hs.len.symm]; exact hw.nodup
    · rw [howns _ _ hs.len.symm]; exact hw.sep
  refine wp_region_any hm ?_
  refine wpAny_tr (N0 := s.S.length) (w0 := { w with drawn := w.drawn + 1 }) (I0 := I) (L0 := L ++ List.replicate m (Lay.z none)) hT htr (by simpa using hck) hp (by simp; omega) ids1
    (fun i ob hi j hj => ?_) (fun i h1 h2 => ?_) (fun a' w' I' L' hs' ht' => ?_) ops.size (Array.replicate ops.size false) a _ I (L ++ List.replicate m (Lay.z none)) (by simp) (fun i o ho hl => ?_) ?_ ?_ ?_
  · rcases hgetS i ob hi with hi' | rfl
    · exact ids2 i ob hi' j hj
    · simp [oids] at hj
  · simp at h2
    show (s.S ++ List.replicate m Ob.gone)[i]? = some Ob.gone
    rw [List.getElem?_append_right h1, List.getElem?_replicate, if_pos (by omega)]
  · refine ⟨_, I', L', hq, hs', ?_⟩
    have hev := ht'.evo
    simp only [howns _ _ hs.len.symm] at hev
    refine ⟨⟨hev.os, hev.tape, hev.output, hev.size, hev.keep, hev.imm, hev.immNew, hev.own⟩, ht'.pin, fun i hi => ?_⟩
    rw [ht'.lay i hi, List.getElem?_append_left (by rw [hs.len]; omega)]
  · simp [lst, Array.getD_eq_getD_getElem?, Array.getElem?_replicate] at hl
    split at hl <;> simp at hl
  · have : ∀ n, n ≤ ops.size → unl (Array.replicate ops.size false) n = n := by
      intro n
      induction n with
      | zero => intro _; rfl
      | succ n ih =>
        intro hn
        simp only [unl]
        rw [ih (by omega), if_neg]
        simp [lst, Array.getD_eq_getD_getElem?, show n < ops.size by omega]
    exact this ops.size (Nat.le_refl _)
  · have : ∀ (r : List TrE), (∀ u ∈ r, lst (Array.replicate ops.size false) u.i = false) := by
      intro r u _
      simp only [lst, Array.getD_eq_getD_getElem?, Array.getElem?_replicate]
      split <;> rfl
    have h0 : stX (lst (Array.replicate ops.size false)) ⟨s.env, s.S ++ List.replicate m .gone, s.nt, s.pin⟩ tr = ⟨s.env, s.S ++ List.replicate m .gone, s.nt, s.pin⟩ := by
      have := stX_skip (s0 := ⟨s.env, s.S ++ List.replicate m .gone, s.nt, s.pin⟩) (l := tr) (r := []) (this tr)
      simpa [stX] using this
    rw [h0]; exact hs0
  · have : ∀ (r : List TrE), (∀ u ∈ r, lst (Array.replicate ops.size false) u.i = false) := by
      intro r u _
      simp only [lst, Array.getD_eq_getD_getElem?, Array.getElem?_replicate]
      split <;> rfl
    have h0 : stX (lst (Array.replicate ops.size false)) ⟨s.env, s.S ++ List.replicate m .gone, s.nt, s.pin⟩ tr = ⟨s.env, s.S ++ List.replicate m .gone, s.nt, s.pin⟩ := by
      have := stX_skip (s0 := ⟨s.env, s.S ++ List.replicate m .gone, s.nt, s.pin⟩) (l := tr) (r := []) (this tr)
      simpa [stX] using this
    rw [h0]; exact Step.refl _ _ _ _

/-! ### The walk -/

theorem evStN_shp {t : TypeId} {p x : FV} {S' : List Ob} (h : evStN T s t p x = some S') (i : Nat) : (S'[i]?).map shp = (s.S[i]?).map shp := by
  have key : ∀ (id : Nat) (ob ob' : Ob), s.S[id]? = some ob → shp ob' = shp ob → ((s.S.set id ob')[i]?).map shp = (s.S[i]?).map shp := by
    intro id ob ob' h1 h2
    by_cases hi : id = i
    · subst hi
      rw [List.getElem?_set_self (List.getElem?_eq_some_iff.1 h1).1, h1]
      simp [h2]
    · rw [List.getElem?_set_ne hi]
  unfold evStN at h
  simp only [Option.bind_eq_some_iff] at h
  obtain ⟨ti, _, h⟩ := h
  split at h
  · split at h
    · split at h
      · rename_i tt cs hS
        split at h
        · cases h; exact key _ _ _ hS rfl
        · cases h
      · cases h
    · split at h
      · rename_i e k xs hS
        split at h
        · rename_i hkk
          subst hkk
          simp only [Option.bind_eq_some_iff] at h
          obtain ⟨y, _, ds, _, h⟩ := h
          split at h
          · split at h
            · cases h; exact key _ _ _ hS (by simp [shp])
            · cases h
          · split at h
            · split at h
              · split at h
                · cases h
                · cases h; exact key _ _ _ hS (by simp [shp])
              · cases h
            · cases h
        · cases h
      · cases h
    · cases h
  · cases h

theorem app_shp_nil {v : FV} {d : Option Nat} (i : Nat) : (((⟨v, []⟩ : Ev).app d s).S[i]?).map shp = (s.S[i]?).map shp := by simp [Ev.app, updS_nil]

theorem op_shp (h0 : isStore o.op = true) (h1 : evOp T o (msk s (opTmps o.op) (rdIds s o.op)) = some s1) (i : Nat) :
    (((mkEv o.dst s.S.length nid (wrIds s o.op) s1).app o.dst s).S[i]?).map shp = (s.S[i]?).map shp := by
  cases ho : o.op <;> rw [ho] at h0 <;> simp only [isStore, Bool.false_eq_true] at h0
  rename_i t p x
  have hx : ∀ y ∈ o.op.operands.toList, evX (msk s (opTmps o.op) (rdIds s o.op)) y = evX s y := fun y hy => msk_evX hy
  unfold evOp at h1
  rw [ho] at h1 hx
  simp only [Option.bind_eq_some_iff] at h1
  obtain ⟨vp, hp, vx, _, S', hS, h1⟩ := h1
  obtain ⟨e1, _, _, _⟩ := setS_out h1
  have e1' : s1.S = S' := e1
  have hpp : evX s p = some vp := by rw [← hx p (by simp [Op.operands])]; exact hp
  have hlen : s1.S.length = s.S.length := by rw [e1', (evStN_out hS).1]; simp [msk, mskS_len]
  unfold mkEv Ev.app
  rw [List.getElem?_eq_none (show s1.S.length ≤ s.S.length by omega)]
  simp only [List.nil_append]
  rw [updS_get, Nat.zero_add, getO_wrEv]
  by_cases hw : i ∈ wrIds s (Op.store t p x)
  · rw [if_pos hw]
    have hsh := evStN_shp hS i
    rw [← e1'] at hsh
    simp only [msk, mskS_get, Nat.zero_add] at hsh
    have hrd : i ∈ rdIds s (Op.store t p x) := by simpa [rdIds, wrIds] using hw
    by_cases hlt : i < s.S.length
    · rw [List.getElem?_eq_getElem (show i < s1.S.length by omega), List.getElem?_eq_getElem hlt] at hsh ⊢
      simp only [Option.map_some, hrd, if_true, Option.some.injEq, Option.getD_some] at hsh ⊢
      exact hsh
    · rw [List.getElem?_eq_none (show s.S.length ≤ i by omega)]; rfl
  · rw [if_neg hw]
    cases s.S[i]? <;> rfl

/-- One operation that calls no function: its event, what it reads, of what it reads the length, whether it leaves lengths alone. -/
def evDr1 (T : Nat → Option TI) (ops : Array Oper) (fz : Bool) (o : Oper) (s : St) (nid : Nat) : Option (Ev × List Nat × List Nat × Bool) :=
  (wantS ops s o).bind fun b => if b = true then
      (if isSh o.op = true then (evA T s o.op).bind fun v => (setS s o.dst v).map fun _ => (⟨v, []⟩, [], shIds s o.op, true)
       else if fz = true then (match o.op with
         | .buildSlice .. => (evOp T o (msk s (opTmps o.op) [])).bind fun s1 => match s1.S[s.S.length]?, o.dst with
           | some (.arr _ k xs), some d => (match get s1.env d with
             | some (.sl id n) => if id = s.S.length ∧ n = xs.length then some (⟨.d (.list k xs), []⟩, [], [], true) else none
             | _ => none)
           | _, _ => none
         | _ => none)
       else (evOp T o (msk s (opTmps o.op) (rdIds s o.op))).bind fun s1 => if newOk s.S.length nid o.dst (wrIds s o.op) s1 = true then some (mkEv o.dst s.S.length nid (wrIds s o.op) s1, rdIds s o.op, [], isStore o.op) else none)
    else (setS s o.dst (.tup [])).map fun _ => (⟨.tup [], []⟩, [], [], true)

theorem setS_lt {x : FV} (h : setS s o.dst x = some s1) : ∀ d, o.dst = some d → d < s.nt := fun d hd => ((setS_out h).2.2.2 d hd).2

theorem evDr1_ok {fz : Bool} {e : Ev} {rd sh : List Nat} {st : Bool} (h : evDr1 T ops fz o s nid = some (e, rd, sh, st)) :
    EvOk P T ops o s nid e rd sh ∧ (st = true → ∀ i : Nat, ((e.app o.dst s).S[i]?).map shp = (s.S[i]?).map shp) := by
  unfold evDr1 at h
  simp only [Option.bind_eq_some_iff] at h
  obtain ⟨b, hb, h⟩ := h
  split at h
  · rename_i hbt
    subst hbt
    split at h
    · rename_i hsh
      simp only [Option.bind_eq_some_iff, Option.map_eq_some_iff, Prod.mk.injEq] at h
      obtain ⟨v, hv, s1, hs1, rfl, rfl, rfl, rfl⟩ := h
      exact ⟨.sh hb hsh hv (setS_lt hs1), fun _ => app_shp_nil⟩
    · split at h
      · split at h
        · rename_i t len parts ho
          simp only [Option.bind_eq_some_iff] at h
          obtain ⟨s1, hs1, h⟩ := h
          split at h
          · rename_i et k xs d hS hd
            split at h
            · rename_i id n hg
              split at h
              · rename_i hc
                obtain ⟨rfl, rfl⟩ := hc
                simp only [Option.some.injEq, Prod.mk.injEq] at h
                obtain ⟨rfl, rfl, rfl, rfl⟩ := h
                exact ⟨.lit hb hs1 (by simp [wrIds, ho]) hS hd hg, fun _ => app_shp_nil⟩
              · cases h
            · cases h
          · cases h
        · cases h
      · simp only [Option.bind_eq_some_iff] at h
        obtain ⟨s1, hs1, h⟩ := h
        split at h
        · rename_i hok
          simp only [Option.some.injEq, Prod.mk.injEq] at h
          obtain ⟨rfl, rfl, rfl, rfl⟩ := h
          exact ⟨.op hb hs1 hok, fun hst => op_shp hst hs1⟩
        · cases h
  · rename_i hbf
    have hbf' : b = false := by simpa using hbf
    subst hbf'
    simp only [Option.map_eq_some_iff, Prod.mk.injEq] at h
    obtain ⟨s1, hs1, rfl, rfl, rfl, rfl⟩ := h
    exact ⟨.skip hb (setS_lt hs1), fun _ => app_shp_nil⟩

/-- n operations; fz: the places of literals that nobody writes. -/
def evDr (T : Nat → Option TI) (ops : Array Oper) (fz : List Nat) : Nat → List Oper → St → Nat → List TrC → Option (List Oper × St × Nat × List TrC)
  | 0, l, s, nid, tr => some (l, s, nid, tr)
  | _ + 1, [], s, nid, tr => some ([], s, nid, tr)
  | n + 1, o :: l, s, nid, tr => (evDr1 T ops (decide (tr.length ∈ fz)) o s nid).bind fun p =>
      evDr T ops fz n l (p.1.app o.dst s) (if nid ∈ p.1.mods.map (·.1) then nid + 1 else nid) (⟨tr.length, p.1.mods.map (·.1), evIds p.1, nid, p.2.1, p.2.2.1, p.2.2.2⟩ :: tr)

theorem DrO.run {fz : List Nat} : ∀ (n : Nat) {l l' : List Oper} {s s' : St} {nid nid' : Nat} {tr tr' : List TrC}, evDr T ops fz n l s nid tr = some (l', s', nid', tr') → DrO P T ops l' s' nid' tr' K → DrO P T ops l s nid tr K
  | 0, l, l', s, s', nid, nid', tr, tr', h, k => by simp only [evDr, Option.some.injEq, Prod.mk.injEq] at h; obtain ⟨rfl, rfl, rfl, rfl⟩ := h; exact k
  | n + 1, [], l', s, s', nid, nid', tr, tr', h, k => by simp only [evDr, Option.some.injEq, Prod.mk.injEq] at h; obtain ⟨rfl, rfl, rfl, rfl⟩ := h; exact k
  | n + 1, o :: l, l', s, s', nid, nid', tr, tr', h, k => by
    simp only [evDr, Option.bind_eq_some_iff] at h
    obtain ⟨⟨e, rd, sh, st⟩, h1, h2⟩ := h
    obtain ⟨q1, q2⟩ := evDr1_ok (P := P) h1
    exact ⟨e, rd, sh, st, _, q1, q2, DrO.run n h2 k⟩

theorem DrO.nil (h : K s tr) : DrO P T ops [] s nid tr K := h

/-- Structs are compared. -/
theorem DrO.eqS {t ty : TypeId} {x y : Operand} {xs ys : List D} {b : Bool} {l : List Oper} (neg : Bool) (h : wantS ops s o = some true) (ho : o.op = .binOp (eqOp neg) t x y ty) (hx : evX s x = some (.d (.agg xs))) (hy : evX s y = some (.d (.agg ys)))
    (hE : EqT P t xs ys b) (hset : setS s o.dst (.d (.bool (b ^^ neg))) = some s1) (k : DrO P T ops l s1 nid (⟨tr.length, [], [], nid, [], [], true⟩ :: tr) K) : DrO P T ops (o :: l) s nid tr K := by
  refine ⟨_, _, _, true, nid, .eqs h ho hx hy hE (setS_lt hset), fun _ => app_shp_nil, ?_⟩
  rw [setS_eq (setS_lt hset)] at hset
  cases hset
  simpa [Ev.app, updS_nil, evIds, fids] using k

/-- A call that is lent rows. -/
theorem DrO.lend {fx : Operand} {args : Array Operand} {ts : Array TypeId} {g : FuncId} {caps xs cargs : List FV} {v : FV} {l : List Oper} (h : wantS ops s o = some true) (ho : o.op = .call { callee := .value fx, args, argTypes := ts })
    (hf : evX s fx = some (.fn g caps)) (hx : evXs s args.toList = some xs) (hv : viewFs true s.S (xs ++ caps) = some cargs) (hc : Callable P g) (hcall : WpF P g cargs [] fun r _ => r = v) (hfl : flatR v = true)
    (hset : setS s o.dst v = some s1) (k : DrO P T ops l s1 nid (⟨tr.length, [], fids v, nid, vidss s.S (xs ++ caps), [], true⟩ :: tr) K) : DrO P T ops (o :: l) s nid tr K := by
  refine ⟨⟨v, []⟩, _, _, true, nid, .lend h ho hf hx hv hc hcall hfl (setS_lt hset), fun _ => app_shp_nil, ?_⟩
  rw [setS_eq (setS_lt hset)] at hset
  cases hset
  simpa [Ev.app, updS_nil, evIds] using k

/-- A call that is handed data, and hands back data. -/
theorem DrO.data {fx : Operand} {args : Array Operand} {ts : Array TypeId} {g : FuncId} {caps xs cargs : List FV} {v : FV} {l : List Oper} (h : wantS ops s o = some true) (ho : o.op = .call { callee := .value fx, args, argTypes := ts })
    (hf : evX s fx = some (.fn g caps)) (hx : evXs s args.toList = some xs) (hv : viewFs false s.S (xs ++ caps) = some cargs) (hc : Callable P g) (hcall : WpF P g cargs [] fun r S1 => r = v ∧ S1 = []) (hid : fids v = [])
    (hset : setS s o.dst v = some s1) (k : DrO P T ops l s1 nid (⟨tr.length, [], [], nid, vidss s.S (xs ++ caps), [], true⟩ :: tr) K) : DrO P T ops (o :: l) s nid tr K := by
  have hren : ∀ σ : Nat → Nat, ren σ v = v := fun σ => ren_id (by simp [hid])
  have hev := EvOk.call (P := P) (T := T) (all := ops) (o := o) (s := s) (nid := nid) (S0 := []) (r0 := v) [] h ho hf hx hc (by simp) (argsOk_view hv) ⟨rfl, fun j i c h => by simp at h⟩ hcall (by simp [callOkB, hren, hid, renOs]) (setS_lt hset)
  rw [hren, hren] at hev
  refine ⟨_, _, _, true, nid, hev, fun _ => by simpa [callS, renOs] using app_shp_nil, ?_⟩
  rw [setS_eq (setS_lt hset)] at hset
  cases hset
  simpa [Ev.app, updS_nil, evIds, callS, renOs, hid] using k

/-- A call that hands over objects, or hands back a new one. -/
theorem DrO.call {fx : Operand} {args : Array Operand} {ts : Array TypeId} {g : FuncId} {caps xs cargs : List FV} {cS : List Ob} (perm : List Nat) {r0 v : FV} {S0 S1 : List Ob} {mods : List (Nat × Ob)} {ids : List Nat} {l : List Oper} (h : wantS ops s o = some true) (ho : o.op = .call { callee := .value fx, args, argTypes := ts })
    (hf : evX s fx = some (.fn g caps)) (hx : evXs s args.toList = some xs) (hc : Callable P g) (hn : perm.Nodup) (ha : ArgsOk s.S perm (xs ++ caps) cargs) (hpass : PassOk s.S perm cS)
    (hcall : WpF P g cargs cS fun r S1 => r = r0 ∧ S1 = S0) (hb : callOkB s.S.length nid perm r0 S0 = true) (hv : ren (mvN s.S.length nid) (ren (σ1 s.S.length perm) r0) = v) (hm : callS s.S.length nid perm S0 = mods) (hS : updS mods 0 s.S = S1)
    (hset : setS { s with S := S1 } o.dst v = some s1) (hids : evIds ⟨v, mods⟩ = ids)
    (k : DrO P T ops l s1 (if nid ∈ mods.map (·.1) then nid + 1 else nid) (⟨tr.length, mods.map (·.1), ids, nid, vidss s.S (xs ++ caps) ++ perm, [], false⟩ :: tr) K) : DrO P T ops (o :: l) s nid tr K := by
  subst hv; subst hm; subst hS; subst hids
  have hd : ∀ d, o.dst = some d → d < s.nt := fun d hd => ((setS_out hset).2.2.2 d hd).2
  refine ⟨_, _, _, false, (if nid ∈ (callS s.S.length nid perm S0).map (·.1) then nid + 1 else nid), .call perm h ho hf hx hc hn ha hpass hcall hb hd, nofun, ?_⟩
  rw [setS_eq (s := { s with S := updS (callS s.S.length nid perm S0) 0 s.S }) hd] at hset
  cases hset
  exact k
end
end Go.Proofs.Ytaobnhenjldjeaa.Pay
/- Rules in the form in which walks are printed. No statement of the seed is proved here. -/
namespace Go.Proofs.Ytaobnhenjldjeaa.Pay
open Go Go.RowKit
set_option linter.unusedSimpArgs false
set_option linter.unusedVariables false

theorem dT {p : Prop} [Decidable p] : (decide p = true) = p := by simp
theorem dF {p : Prop} [Decidable p] : (decide p = false) = ¬ p := by simp

@[simp] theorem take_len_map {α β : Type} (f : α → β) (a : List α) : (a.map f).take a.length = a.map f := List.take_of_length_le (by simp)
@[simp] theorem take_len {α : Type} (a : List α) : a.take a.length = a := List.take_of_length_le (Nat.le_refl _)

/-- Where a function returns data: what it made is data from here on. -/
def retD (T : Nat → Option TI) (res : List ResultVar) (Q : FV → Prop) (e : Exit) (s : St) : Prop :=
  (e = .normal ∨ e = .ret) ∧ ∃ xs ys, retAll T s res = some xs ∧ viewFs true s.S xs = some ys ∧ Q (pack ys)

/-- A function of data, that gives data. -/
def Gives (P : Program) (f : FuncId) (args : List FV) (v : FV) : Prop := WpF P f args [] fun r S => r = v ∧ S = []

section
variable {P : Program} {T : Nat → Option TI} {w w' : World} {I I' : Nat → Prop} {L L' : List Lay} {s s' s1 : St} {a : Act} {all : Array Oper} {o : Oper} {rest : List Oper} {Q : Exit → St → Prop} {c : Code}

theorem view_pack {S : List Ob} {xs ys : List FV} (h : viewFs true S xs = some ys) : viewF true S (pack xs) = some (pack ys) := by
  cases xs with
  | nil => simp [viewFs] at h; subst h; simp [pack, viewF, viewFs]
  | cons x xs =>
    cases xs with
    | nil =>
      simp only [viewFs, Option.bind_eq_some_iff, Option.map_eq_some_iff] at h
      obtain ⟨y, hy, zs, hz, rfl⟩ := h
      cases hz
      simpa [pack] using hy
    | cons x2 xs =>
      have h' := h
      simp only [viewFs, Option.bind_eq_some_iff, Option.map_eq_some_iff] at h'
      obtain ⟨y, hy, zs, ⟨y2, hy2, zs2, hz2, rfl⟩, rfl⟩ := h'
      simp only [pack, viewF]
      rw [h]; rfl

theorem WpF.enterD (hT : TabOk P T) {f : FuncId} {fn : Func} {c : Code} {args : List FV} {Q : FV → Prop} (hf : P.funcs[f]? = some fn) (hb : fn.body = some c) (hn : args.length ≤ fn.ntmps)
    (h : WpC P c ⟨envFrom 0 args, [], fn.ntmps, 0⟩ (retD T fn.results.toList Q)) : WpF P f args [] (fun r S => Q r ∧ S = []) := fun w I L vs ha hO => by
  have hL : L = [] := List.eq_nil_of_length_eq_zero hO.len
  subst hL
  have hvl := ha.length
  have hs : SR w I [] ⟨envFrom 0 args, [], fn.ntmps, 0⟩ { tmps := vs.toArray ++ Array.replicate (fn.ntmps - vs.toArray.size) undef, defers := [] } := by
    refine ⟨fun t x hx => ?_, by simp; omega, hO.len, hO.obs, hO.nodup, hO.sep, hO.imm, rfl⟩
    obtain ⟨i, rfl, hi⟩ := get_envFrom hx
    obtain ⟨v, hv, hz⟩ := ha.get i x hi
    have hlt : i < vs.length := (List.getElem?_eq_some_iff.1 hv).1
    rw [Nat.zero_add, Array.getD_eq_getD_getElem?, Array.getElem?_append_left (by simpa using hlt)]
    simpa [hv] using hz
  refine calls_of_wp hf hb (wp_mono (h w I [] _ hs) fun e a' w' p => ?_)
  obtain ⟨s', I', L', ⟨he, xs, ys, hxs, hys, hq⟩, hs', ⟨st, sp, sl⟩⟩ := p
  obtain ⟨v, hv, hz⟩ := results_run hT hs' hxs
  have hview : VRel w' (lentI I' s'.S L') [] (pack ys) v := viewL_ok hs' [] hz (view_pack hys)
  have hfin : ∃ r v_1 S' I' L', Ending.returned v = .returned v_1 ∧ (Q r ∧ S' = []) ∧ VRel w' I' L' r v_1 ∧ OR w' I' L' S' ∧ Evo w I (owns [] []) w' I' (owns S' L') ∧ ([] : List Ob).length ≤ S'.length ∧ ∀ i : Nat, i < ([] : List Ob).length → L'[i]? = ([] : List Lay)[i]? := by
    refine ⟨pack ys, v, [], lentI I' s'.S L', [], rfl, ⟨hq, rfl⟩, hview, ⟨rfl, fun i o l h => by simp at h, by simp [owns], fun b hb => by simp [owns] at hb, fun b hb => ?_⟩, ⟨st.os, st.tape, st.output, st.size, st.keep, fun b hb => .inl (st.imm b hb), fun b hb => ?_, fun b hb => by simp [owns] at hb⟩, Nat.le_refl _, fun i hi => by simp at hi⟩
    · rcases hb with hb | hb
      · exact hs'.imm b hb
      · exact (hs'.sep b hb).2
    · rcases hb with hb | hb
      · exact st.immNew b hb
      · rcases st.own b hb with h' | h'
        · exact .inr (.inl h')
        · exact .inr (.inr h')
  rcases he with rfl | rfl
  · exact ⟨hs'.defers, v, hv, hfin⟩
  · exact ⟨hs'.defers, v, hv, hfin⟩

/-- r may be taken for v. -/
def leR : FV → FV → Prop
  | .tup xs, .tup ys => leA xs ys
  | x, y => FV.le x y

theorem leR_ok {x y : FV} {v : Value} (hl : leR x y) (h : VRel w I L x v) : VRel w I L y v := by
  unfold leR at hl
  split at hl
  · simp only [VRel] at h ⊢
    obtain ⟨vs, h1, h2⟩ := h
    exact ⟨vs, h1, leA_ok hl h2⟩
  · exact le_ok hl h

theorem Gives.enter (hT : TabOk P T) {f : FuncId} {fn : Func} {c : Code} {args : List FV} {v : FV} (hf : P.funcs[f]? = some fn) (hb : fn.body = some c) (hn : args.length ≤ fn.ntmps)
    (h : WpC P c ⟨envFrom 0 args, [], fn.ntmps, 0⟩ (retD T fn.results.toList (leR · v))) : Gives P f args v := fun w I L vs ha hO =>
  (WpF.enterD hT hf hb hn h w I L vs ha hO).mono fun e w' ⟨r, v', S', I', L', e1, ⟨e2, e3⟩, e4, e5⟩ => ⟨v, v', S', I', L', e1, ⟨rfl, e3⟩, leR_ok e2 e4, e5⟩

theorem retD_i {res : List ResultVar} {Q : FV → Prop} {xs ys : List FV} (h1 : retAll T s res = some xs) (h2 : viewFs true s.S xs = some ys) (hq : Q (pack ys)) : Pay.retD T res Q .ret s := ⟨.inr rfl, xs, ys, h1, h2, hq⟩

/-- A call that is handed data. -/
theorem WpO.data {fx : Operand} {args : Array Operand} {ts : Array TypeId} {g : FuncId} {caps xs cargs : List FV} {v : FV} (h : wantS all s o = some true) (ho : o.op = .call { callee := .value fx, args, argTypes := ts })
    (hf : evX s fx = some (.fn g caps)) (hx : evXs s args.toList = some xs) (hv : viewFs false s.S (xs ++ caps) = some cargs) (hc : Callable P g) (hp : s.pin ≤ s.S.length) (hcall : Gives P g cargs v) (hid : fids v = [])
    (hset : setS s o.dst v = some s1) (k : WpO P all rest s1 Q) : WpO P all (o :: rest) s Q :=
  WpO.callD h ho hf hx hv hc hp hcall fun r S1 hr => by
    obtain ⟨rfl, rfl⟩ := hr
    refine ⟨s1, ?_, k⟩
    rw [ren_id (by simp [hid])]
    simpa [renOs] using hset

/-- A call that is lent rows. -/
theorem WpO.lend {fx : Operand} {args : Array Operand} {ts : Array TypeId} {g : FuncId} {caps xs cargs : List FV} {v : FV} (h : wantS all s o = some true) (ho : o.op = .call { callee := .value fx, args, argTypes := ts })
    (hf : evX s fx = some (.fn g caps)) (hx : evXs s args.toList = some xs) (hv : viewFs true s.S (xs ++ caps) = some cargs) (hc : Callable P g) (hcall : Gives P g cargs v) (hfl : flatR v = true)
    (hset : setS s o.dst v = some s1) (k : WpO P all rest s1 Q) : WpO P all (o :: rest) s Q :=
  WpO.callL h ho hf hx hv hc hcall fun r S1 hr => by
    obtain ⟨rfl, rfl⟩ := hr
    exact ⟨hfl, s1, hset, k⟩

/-- A guard is parted by cases. -/
theorem WpC.condR {r : Option Bool} {b : Bool} {x : Operand} {c1 c2 : Code} (hc : Pay.evB s x = r) (hr : r = some b) (ht : b = true → WpC P c1 s Q) (hf : b = false → WpC P c2 s Q) : WpC P (.cond x c1 c2) s Q := WpC.condP b (hc.trans hr) ht hf
theorem WpO.splitB {r : Option FV} {b : Bool} (d : Nat) (hb0 : get s.env d = r) (hr : r = some (.d (.bool b))) (ht : b = true → WpO P all rest { s with env := (d, .d (.bool true)) :: s.env } Q) (hf : b = false → WpO P all rest { s with env := (d, .d (.bool false)) :: s.env } Q) : WpO P all rest s Q := by
  have hb := hb0.trans hr
  have key : ∀ c, b = c → WpO P all rest { s with env := (d, .d (.bool c)) :: s.env } Q → WpO P all rest s Q := fun c hc h => by
    subst hc
    refine WpO.gh (Gh.slot (x := .d (.bool b)) hb fun _ _ _ _ _ _ hv => hv) h
  cases b
  · exact key false rfl (hf rfl)
  · exact key true rfl (ht rfl)

theorem get_news {t t0 : Nat} (ht : t ≠ t0) : ∀ {env : List (Nat × FV)} {n : Nat} {y : FV}, (env.take n).all (fun p => p.1 == t0 || (get (env.drop n) p.1).isNone) = true → get (env.drop n) t = some y → get env t = some y
  | env, 0, y, _, h => by simpa using h
  | [], n + 1, y, _, h => by simpa using h
  | (k, x) :: r, n + 1, y, hn, h => by
    simp only [List.take_succ_cons, List.drop_succ_cons, List.all_cons, Bool.and_eq_true] at hn h
    simp only [get]
    by_cases hk : k = t
    · subst hk; rw [h] at hn; simp [ht] at hn
    · rw [if_neg hk]; exact get_news ht hn.2 h

/-- The last n news are let go, but for slot t. -/
theorem Gh.only {env env0 : List (Nat × FV)} {S : List Ob} {nt pin : Nat} (t n : Nat) {x : FV} (hx : get env t = some x) (hd : env.drop n = env0) (hn : (env.take n).all (fun p => p.1 == t || (get env0 p.1).isNone) = true) : Gh ⟨env, S, nt, pin⟩ ⟨(t, x) :: env0, S, nt, pin⟩ := by
  subst hd
  refine Gh.forget (s := ⟨env, S, nt, pin⟩) fun t' y hy => ?_
  simp only [get] at hy
  by_cases ht : t = t'
  · rw [if_pos ht] at hy; cases hy; subst ht; exact hx
  · rw [if_neg ht] at hy; exact get_news (Ne.symm ht) hn hy

/-- A piece of code that gives slot t a value, and nothing else that counts. -/
theorem WpC.val (t : Nat) (x : FV) (h : WpC P c s (fun e s1 => e = .normal ∧ Gh s1 { s with env := (t, x) :: s.env })) (k : Q .normal { s with env := (t, x) :: s.env }) : WpC P c s Q := WpC.join _ h k

/-- A loop that counts up to n: ch: the slots that turn, at its head ahead of round k. -/
theorem WpC.loopK {α : Type} (ks cs : List Nat) (n : Nat) (a0 : α) (ch : Nat → α → List (Nat × FV)) (SS : Nat → α → List Ob) (inv : Nat → α → Prop) {env0 : List (Nat × FV)} (he : keepE s.env ks = some env0)
    (h0 : Gh s ⟨ch 0 a0 ++ env0, SS 0 a0, s.nt, s.pin⟩) (hi : inv 0 a0)
    (hr : ∀ k a, k ≤ n → inv k a → WpC P c ⟨ch k a ++ env0, SS k a, s.nt, s.pin⟩ (fun e s' => match e with | .normal => k < n ∧ ∃ a', inv (k + 1) a' ∧ Gh s' ⟨ch (k + 1) a' ++ env0, SS (k + 1) a', s.nt, s.pin⟩ | e => Q e s')) : WpC P (.loop c) s Q := by
  refine WpC.countP n (fun k s' => ∃ a, inv k a ∧ s' = ⟨ch k a ++ env0, SS k a, s.nt, s.pin⟩) ⟨_, h0, a0, hi, rfl⟩ fun k s' hk ⟨a, ha, hs⟩ => ?_
  subst hs
  refine WpC.mono (hr k a hk ha) fun e s1 h => ?_
  cases e with
  | normal => obtain ⟨h1, a', h2, h3⟩ := h; exact ⟨h1, _, h3, a', h2, rfl⟩
  | _ => exact h

/-- A loop with a measure. -/
theorem WpC.loopM {α : Type} (ks cs : List Nat) (m : α → Nat) (a0 : α) (ch : α → List (Nat × FV)) (SS : α → List Ob) (inv : α → Prop) {env0 : List (Nat × FV)} (he : keepE s.env ks = some env0)
    (h0 : Gh s ⟨ch a0 ++ env0, SS a0, s.nt, s.pin⟩) (hi : inv a0)
    (hr : ∀ a, inv a → WpC P c ⟨ch a ++ env0, SS a, s.nt, s.pin⟩ (fun e s' => match e with | .normal => ∃ a', inv a' ∧ m a' < m a ∧ Gh s' ⟨ch a' ++ env0, SS a', s.nt, s.pin⟩ | e => Q e s')) : WpC P (.loop c) s Q := by
  refine WpC.while (fun n s' => ∃ a, inv a ∧ m a = n ∧ s' = ⟨ch a ++ env0, SS a, s.nt, s.pin⟩) (m a0) ⟨_, h0, a0, hi, rfl, rfl⟩ fun n s' ⟨a, ha, hm, hs⟩ => ?_
  subst hs; subst hm
  refine WpC.mono (hr a ha) fun e s1 h => ?_
  cases e with
  | normal => obtain ⟨a', h1, h2, h3⟩ := h; exact ⟨_, h2, _, h3, a', h1, rfl, rfl⟩
  | _ => exact h

theorem run_slice_nil {t e : TypeId} (ht : P.underlying t = some (.slice e)) (b : Option Addr) (n c : Nat) : (binOp .eql t (.slice b n c) (.slice none 0 0)).run P w = .ok (.bool b.isNone) w := by
  refine run_eql_of rfl fun d => ?_
  cases b <;> simp [Op.equalIn, runU ht]

/-- A row is compared with nil: nobody knows. -/
theorem WpO.nilEq (hT : TabOk P T) {t ty : TypeId} {k e : Nat} {xs : List D} {x : Operand} {i : TI} (hw : wantS all s o = some true) (ho : o.op = .binOp .eql t x (.const (.slice none 0 0)) ty) (hi : T t = some i) (hk : i.kind = .slice e) (hx : evX s x = some (.d (.list k xs)))
    (h : ∀ b : Bool, (b = true → xs = []) → ∃ s1, setS s o.dst (.d (.bool b)) = some s1 ∧ WpO P all rest s1 Q) : WpO P all (o :: rest) s Q := fun w I L a hs => by
  have ht := (hT _ _ hi).kind
  rw [hk] at ht
  simp only [TKOk] at ht
  have hv := hs.evX hx
  simp only [VRel, DRel] at hv
  obtain ⟨base, c, hv, hle, hd⟩ := hv
  obtain ⟨s1, hset, hk'⟩ := h base.isNone (fun hb => by
    rcases hd with hd | ⟨b, off, vs, hd, _⟩
    · exact hd
    · subst hd; cases hb)
  unfold wpList
  rw [if_pos (hs.want hw)]
  refine .inl ?_
  have hrun : (execOp a.eval o).run P w = .ok (.value (.bool base.isNone)) w := by
    unfold execOp
    have hc : a.eval (Operand.const (.slice none 0 0)) = .slice none 0 0 := rfl
    simp only [ho, hv, hc, eqGuard_at_slice, Sem.run_bind, Sem.run_pure, Result.andThen_ok, run_slice_nil ht]
  unfold Oper.wp
  rw [hrun]
  obtain ⟨e1, e2, e3⟩ := hs.put (v := .bool base.isNone) (by simp only [VRel, DRel]) hset
  have := hk' w I L _ e1
  refine wpList_mono (fun e a' w' p => p.from ⟨?_, e3, fun _ _ => rfl⟩) _ _ _ this
  rw [e2]; exact Evo.refl _ _ _

/-- What is handed may be known better. -/
theorem Gives.le {f : FuncId} {xs ys : List FV} {v : FV} (h : Gives P f ys v) (hl : leA xs ys) : Gives P f xs v := WpF.le h hl

def frzAt (S : List Ob) (id : Nat) : List Ob := match S[id]? with
  | some (.arr _ k xs) => S.set id (.frz k xs)
  | _ => S
/-- Rows are written no more. -/
theorem Gh.frz : ∀ (ids : List Nat) {s : St}, Gh s { s with S := ids.foldl frzAt s.S }
  | [], s => Gh.refl _
  | id :: r, s => by
    have h1 : Gh s { s with S := frzAt s.S id } := by
      unfold frzAt
      split
      · rename_i e k xs h; exact Gh.freeze h
      · exact Gh.refl _
    exact h1.trans (Gh.frz r (s := { s with S := frzAt s.S id }))
end
/-- In a region that draws its order a guard is parted by cases. -/
theorem DrO.splitB {P : Program} {T : Nat → Option TI} {ops : Array Oper} {l : List Oper} {s : St} {nid : Nat} {tr : List TrC} {K : St → List TrC → Prop} {r : Option FV} {b : Bool} (d : Nat) (hb0 : get s.env d = r) (hr : r = some (.d (.bool b)))
    (ht : b = true → DrO P T ops l s nid tr K) (hf : b = false → DrO P T ops l s nid tr K) : DrO P T ops l s nid tr K := by
  cases b
  · exact hf rfl
  · exact ht rfl
end Go.Proofs.Ytaobnhenjldjeaa.Pay
/- The table of types. Written by tab.py. -/
namespace Go.Proofs.Ytaobnhenjldjeaa.Pay
open Go Go.Proofs
def lookT : List (Nat × TI) → Nat → Option TI
  | [], _ => none
  | (s, v) :: r, t => if s = t then some v else lookT r t
def AllT (P : Program) : List (Nat × TI) → Prop
  | [] => True
  | p :: r => TIOk P p.1 p.2 ∧ AllT P r
theorem allT {P : Program} : ∀ {l : List (Nat × TI)} {t : Nat} {i : TI}, AllT P l → lookT l t = some i → TIOk P t i
  | [], _, _, _, h => by simp [lookT] at h
  | (s, v) :: r, t, i, ha, h => by
    unfold lookT at h
    by_cases hs : s = t
    · rw [if_pos hs] at h; cases h; subst hs; exact ha.1
    · rw [if_neg hs] at h; exact allT ha.2 h
theorem TIOk.of {P : Program} {t : Nat} {i : TI} (hk : TKOk P t i.kind) (h : (P.info? t).isSome = true) (h1 : ((P.info? t).get h).size = i.size) (h2 : ((P.info? t).get h).bytes = i.bytes)
    (h3 : ((P.info? t).get h).zero.isSome = true) (h4 : ofLeaves (((P.info? t).get h).zero.get h3).cells.toList = some i.zero) (h5 : (((P.info? t).get h).zero.get h3).cells.size = i.size) : TIOk P t i :=
  ⟨hk, _, _, (Option.some_get h).symm, h1, h2, (Option.some_get h3).symm, h4, h5⟩
def ti2 : TI := ⟨.int .i64, 1, 8, [.int .i64 0]⟩
theorem tiok2 : TIOk Try.prog 2 ti2 := TIOk.of (Try.underlying2) (by kernel_rfl) (by kernel_rfl) (by kernel_rfl) (by kernel_rfl) (by kernel_rfl) (by kernel_rfl)
def ti3 : TI := ⟨.int .i64, 1, 8, [.int .i64 0]⟩
theorem tiok3 : TIOk Try.prog 3 ti3 := TIOk.of (Try.underlying3) (by kernel_rfl) (by kernel_rfl) (by kernel_rfl) (by kernel_rfl) (by kernel_rfl) (by kernel_rfl)
def ti4 : TI := ⟨.bool, 1, 1, [.bool false]⟩
theorem tiok4 : TIOk Try.prog 4 ti4 := TIOk.of (Try.underlying4) (by kernel_rfl) (by kernel_rfl) (by kernel_rfl) (by kernel_rfl) (by kernel_rfl) (by kernel_rfl)
def ti5 : TI := ⟨.int .u8, 1, 1, [.int .u8 0]⟩
theorem tiok5 : TIOk Try.prog 5 ti5 := TIOk.of (Try.underlying5) (by kernel_rfl) (by kernel_rfl) (by kernel_rfl) (by kernel_rfl) (by kernel_rfl) (by kernel_rfl)
def ti6 : TI := ⟨.int .u8, 1, 1, [.int .u8 0]⟩
theorem tiok6 : TIOk Try.prog 6 ti6 := TIOk.of (Try.underlying6) (by kernel_rfl) (by kernel_rfl) (by kernel_rfl) (by kernel_rfl) (by kernel_rfl) (by kernel_rfl)
def ti7 : TI := ⟨.struct [(0, 2), (1, 3), (2, 4), (3, 6)], 4, 24, [.int .i64 0, .int .i64 0, .bool false, .int .u8 0]⟩
theorem tiok7 : TIOk Try.prog 7 ti7 := TIOk.of ⟨_, Try.underlying7, rfl⟩ (by kernel_rfl) (by kernel_rfl) (by kernel_rfl) (by kernel_rfl) (by kernel_rfl) (by kernel_rfl)
def ti8 : TI := ⟨.struct [(0, 2), (1, 3), (2, 4), (3, 6)], 4, 24, [.int .i64 0, .int .i64 0, .bool false, .int .u8 0]⟩
theorem tiok8 : TIOk Try.prog 8 ti8 := TIOk.of ⟨_, Try.underlying8, rfl⟩ (by kernel_rfl) (by kernel_rfl) (by kernel_rfl) (by kernel_rfl) (by kernel_rfl) (by kernel_rfl)
def ti9 : TI := ⟨.str, 1, 16, [.str []]⟩
theorem tiok9 : TIOk Try.prog 9 ti9 := TIOk.of (Try.underlying9) (by kernel_rfl) (by kernel_rfl) (by kernel_rfl) (by kernel_rfl) (by kernel_rfl) (by kernel_rfl)
def ti10 : TI := ⟨.str, 1, 16, [.str []]⟩
theorem tiok10 : TIOk Try.prog 10 ti10 := TIOk.of (Try.underlying10) (by kernel_rfl) (by kernel_rfl) (by kernel_rfl) (by kernel_rfl) (by kernel_rfl) (by kernel_rfl)
def ti11 : TI := ⟨.str, 1, 16, [.str []]⟩
theorem tiok11 : TIOk Try.prog 11 ti11 := TIOk.of (Try.underlying11) (by kernel_rfl) (by kernel_rfl) (by kernel_rfl) (by kernel_rfl) (by kernel_rfl) (by kernel_rfl)
def ti12 : TI := ⟨.int .u64, 1, 8, [.int .u64 0]⟩
theorem tiok12 : TIOk Try.prog 12 ti12 := TIOk.of (Try.underlying12) (by kernel_rfl) (by kernel_rfl) (by kernel_rfl) (by kernel_rfl) (by kernel_rfl) (by kernel_rfl)
def ti13 : TI := ⟨.struct [(0, 9), (1, 12)], 2, 24, [.str [], .int .u64 0]⟩
theorem tiok13 : TIOk Try.prog 13 ti13 := TIOk.of ⟨_, Try.underlying13, rfl⟩ (by kernel_rfl) (by kernel_rfl) (by kernel_rfl) (by kernel_rfl) (by kernel_rfl) (by kernel_rfl)
def ti14 : TI := ⟨.struct [(0, 9), (1, 12)], 2, 24, [.str [], .int .u64 0]⟩
theorem tiok14 : TIOk Try.prog 14 ti14 := TIOk.of ⟨_, Try.underlying14, rfl⟩ (by kernel_rfl) (by kernel_rfl) (by kernel_rfl) (by kernel_rfl) (by kernel_rfl) (by kernel_rfl)
def ti15 : TI := ⟨.ptr 112, 1, 8, [.nilp]⟩
theorem tiok15 : TIOk Try.prog 15 ti15 := TIOk.of (Try.underlying15) (by kernel_rfl) (by kernel_rfl) (by kernel_rfl) (by kernel_rfl) (by kernel_rfl) (by kernel_rfl)
def ti16 : TI := ⟨.ptr 115, 1, 8, [.nilp]⟩
theorem tiok16 : TIOk Try.prog 16 ti16 := TIOk.of (Try.underlying16) (by kernel_rfl) (by kernel_rfl) (by kernel_rfl) (by kernel_rfl) (by kernel_rfl) (by kernel_rfl)
def ti17 : TI := ⟨.ptr 124, 1, 8, [.nilp]⟩
theorem tiok17 : TIOk Try.prog 17 ti17 := TIOk.of (Try.underlying17) (by kernel_rfl) (by kernel_rfl) (by kernel_rfl) (by kernel_rfl) (by kernel_rfl) (by kernel_rfl)
def ti18 : TI := ⟨.struct [(0, 17)], 1, 8, [.nilp]⟩
theorem tiok18 : TIOk Try.prog 18 ti18 := TIOk.of ⟨_, Try.underlying18, rfl⟩ (by kernel_rfl) (by kernel_rfl) (by kernel_rfl) (by kernel_rfl) (by kernel_rfl) (by kernel_rfl)
def ti19 : TI := ⟨.struct [(0, 17)], 1, 8, [.nilp]⟩
theorem tiok19 : TIOk Try.prog 19 ti19 := TIOk.of ⟨_, Try.underlying19, rfl⟩ (by kernel_rfl) (by kernel_rfl) (by kernel_rfl) (by kernel_rfl) (by kernel_rfl) (by kernel_rfl)
def ti20 : TI := ⟨.iface, 1, 16, [.nili]⟩
theorem tiok20 : TIOk Try.prog 20 ti20 := TIOk.of ⟨_, Try.underlying20⟩ (by kernel_rfl) (by kernel_rfl) (by kernel_rfl) (by kernel_rfl) (by kernel_rfl) (by kernel_rfl)
def ti21 : TI := ⟨.int .i32, 1, 4, [.int .i32 0]⟩
theorem tiok21 : TIOk Try.prog 21 ti21 := TIOk.of (Try.underlying21) (by kernel_rfl) (by kernel_rfl) (by kernel_rfl) (by kernel_rfl) (by kernel_rfl) (by kernel_rfl)
def ti22 : TI := ⟨.slice 35, 1, 24, [.nil]⟩
theorem tiok22 : TIOk Try.prog 22 ti22 := TIOk.of (Try.underlying22) (by kernel_rfl) (by kernel_rfl) (by kernel_rfl) (by kernel_rfl) (by kernel_rfl) (by kernel_rfl)
def ti24 : TI := ⟨.slice 3, 1, 24, [.nil]⟩
theorem tiok24 : TIOk Try.prog 24 ti24 := TIOk.of (Try.underlying24) (by kernel_rfl) (by kernel_rfl) (by kernel_rfl) (by kernel_rfl) (by kernel_rfl) (by kernel_rfl)
def ti25 : TI := ⟨.int .i64, 1, 8, [.int .i64 0]⟩
theorem tiok25 : TIOk Try.prog 25 ti25 := TIOk.of (Try.underlying25) (by kernel_rfl) (by kernel_rfl) (by kernel_rfl) (by kernel_rfl) (by kernel_rfl) (by kernel_rfl)
def ti34 : TI := ⟨.struct [(0, 3), (1, 3), (2, 3), (3, 3)], 4, 32, [.int .i64 0, .int .i64 0, .int .i64 0, .int .i64 0]⟩
theorem tiok34 : TIOk Try.prog 34 ti34 := TIOk.of ⟨_, Try.underlying34, rfl⟩ (by kernel_rfl) (by kernel_rfl) (by kernel_rfl) (by kernel_rfl) (by kernel_rfl) (by kernel_rfl)
def ti35 : TI := ⟨.struct [(0, 3), (1, 3), (2, 3), (3, 3)], 4, 32, [.int .i64 0, .int .i64 0, .int .i64 0, .int .i64 0]⟩
theorem tiok35 : TIOk Try.prog 35 ti35 := TIOk.of ⟨_, Try.underlying35, rfl⟩ (by kernel_rfl) (by kernel_rfl) (by kernel_rfl) (by kernel_rfl) (by kernel_rfl) (by kernel_rfl)
def ti38 : TI := ⟨.int .u32, 1, 4, [.int .u32 0]⟩
theorem tiok38 : TIOk Try.prog 38 ti38 := TIOk.of (Try.underlying38) (by kernel_rfl) (by kernel_rfl) (by kernel_rfl) (by kernel_rfl) (by kernel_rfl) (by kernel_rfl)
def ti64 : TI := ⟨.int .u64, 1, 8, [.int .u64 0]⟩
theorem tiok64 : TIOk Try.prog 64 ti64 := TIOk.of (Try.underlying64) (by kernel_rfl) (by kernel_rfl) (by kernel_rfl) (by kernel_rfl) (by kernel_rfl) (by kernel_rfl)
def ti67 : TI := ⟨.int .u64, 1, 8, [.int .u64 0]⟩
theorem tiok67 : TIOk Try.prog 67 ti67 := TIOk.of (Try.underlying67) (by kernel_rfl) (by kernel_rfl) (by kernel_rfl) (by kernel_rfl) (by kernel_rfl) (by kernel_rfl)
def ti76 : TI := ⟨.struct [(0, 4), (1, 24)], 2, 32, [.bool false, .nil]⟩
theorem tiok76 : TIOk Try.prog 76 ti76 := TIOk.of ⟨_, Try.underlying76, rfl⟩ (by kernel_rfl) (by kernel_rfl) (by kernel_rfl) (by kernel_rfl) (by kernel_rfl) (by kernel_rfl)
def ti77 : TI := ⟨.struct [(0, 4), (1, 24)], 2, 32, [.bool false, .nil]⟩
theorem tiok77 : TIOk Try.prog 77 ti77 := TIOk.of ⟨_, Try.underlying77, rfl⟩ (by kernel_rfl) (by kernel_rfl) (by kernel_rfl) (by kernel_rfl) (by kernel_rfl) (by kernel_rfl)
def ti84 : TI := ⟨.int .i64, 1, 8, [.int .i64 0]⟩
theorem tiok84 : TIOk Try.prog 84 ti84 := TIOk.of (Try.underlying84) (by kernel_rfl) (by kernel_rfl) (by kernel_rfl) (by kernel_rfl) (by kernel_rfl) (by kernel_rfl)
def ti93 : TI := ⟨.iface, 1, 16, [.nili]⟩
theorem tiok93 : TIOk Try.prog 93 ti93 := TIOk.of ⟨_, Try.underlying93⟩ (by kernel_rfl) (by kernel_rfl) (by kernel_rfl) (by kernel_rfl) (by kernel_rfl) (by kernel_rfl)
def ti94 : TI := ⟨.iface, 1, 16, [.nili]⟩
theorem tiok94 : TIOk Try.prog 94 ti94 := TIOk.of ⟨_, Try.underlying94⟩ (by kernel_rfl) (by kernel_rfl) (by kernel_rfl) (by kernel_rfl) (by kernel_rfl) (by kernel_rfl)
def ti100 : TI := ⟨.int .u64, 1, 8, [.int .u64 0]⟩
theorem tiok100 : TIOk Try.prog 100 ti100 := TIOk.of (Try.underlying100) (by kernel_rfl) (by kernel_rfl) (by kernel_rfl) (by kernel_rfl) (by kernel_rfl) (by kernel_rfl)
def ti104 : TI := ⟨.ptr 3, 1, 8, [.nilp]⟩
theorem tiok104 : TIOk Try.prog 104 ti104 := TIOk.of (Try.underlying104) (by kernel_rfl) (by kernel_rfl) (by kernel_rfl) (by kernel_rfl) (by kernel_rfl) (by kernel_rfl)
def ti106 : TI := ⟨.ptr 100, 1, 8, [.nilp]⟩
theorem tiok106 : TIOk Try.prog 106 ti106 := TIOk.of (Try.underlying106) (by kernel_rfl) (by kernel_rfl) (by kernel_rfl) (by kernel_rfl) (by kernel_rfl) (by kernel_rfl)
def ti109 : TI := ⟨.ptr 126, 1, 8, [.nilp]⟩
theorem tiok109 : TIOk Try.prog 109 ti109 := TIOk.of (Try.underlying109) (by kernel_rfl) (by kernel_rfl) (by kernel_rfl) (by kernel_rfl) (by kernel_rfl) (by kernel_rfl)
def ti111 : TI := ⟨.struct [(0, 17), (1, 17), (2, 17), (3, 9)], 4, 40, [.nilp, .nilp, .nilp, .str []]⟩
theorem tiok111 : TIOk Try.prog 111 ti111 := TIOk.of ⟨_, Try.underlying111, rfl⟩ (by kernel_rfl) (by kernel_rfl) (by kernel_rfl) (by kernel_rfl) (by kernel_rfl) (by kernel_rfl)
def ti112 : TI := ⟨.struct [(0, 17), (1, 17), (2, 17), (3, 9)], 4, 40, [.nilp, .nilp, .nilp, .str []]⟩
theorem tiok112 : TIOk Try.prog 112 ti112 := TIOk.of ⟨_, Try.underlying112, rfl⟩ (by kernel_rfl) (by kernel_rfl) (by kernel_rfl) (by kernel_rfl) (by kernel_rfl) (by kernel_rfl)
def ti113 : TI := ⟨.array 0 16, 0, 0, []⟩
theorem tiok113 : TIOk Try.prog 113 ti113 := TIOk.of (Try.underlying113) (by kernel_rfl) (by kernel_rfl) (by kernel_rfl) (by kernel_rfl) (by kernel_rfl) (by kernel_rfl)
def ti114 : TI := ⟨.struct [(0, 113)], 0, 0, []⟩
theorem tiok114 : TIOk Try.prog 114 ti114 := TIOk.of ⟨_, Try.underlying114, rfl⟩ (by kernel_rfl) (by kernel_rfl) (by kernel_rfl) (by kernel_rfl) (by kernel_rfl) (by kernel_rfl)
def ti115 : TI := ⟨.struct [(0, 113)], 0, 0, []⟩
theorem tiok115 : TIOk Try.prog 115 ti115 := TIOk.of ⟨_, Try.underlying115, rfl⟩ (by kernel_rfl) (by kernel_rfl) (by kernel_rfl) (by kernel_rfl) (by kernel_rfl) (by kernel_rfl)
def ti117 : TI := ⟨.int .u8, 1, 1, [.int .u8 0]⟩
theorem tiok117 : TIOk Try.prog 117 ti117 := TIOk.of (Try.underlying117) (by kernel_rfl) (by kernel_rfl) (by kernel_rfl) (by kernel_rfl) (by kernel_rfl) (by kernel_rfl)
def ti118 : TI := ⟨.int .u8, 1, 1, [.int .u8 0]⟩
theorem tiok118 : TIOk Try.prog 118 ti118 := TIOk.of (Try.underlying118) (by kernel_rfl) (by kernel_rfl) (by kernel_rfl) (by kernel_rfl) (by kernel_rfl) (by kernel_rfl)
def ti120 : TI := ⟨.ptr 5, 1, 8, [.nilp]⟩
theorem tiok120 : TIOk Try.prog 120 ti120 := TIOk.of (Try.underlying120) (by kernel_rfl) (by kernel_rfl) (by kernel_rfl) (by kernel_rfl) (by kernel_rfl) (by kernel_rfl)
def ti121 : TI := ⟨.int .i32, 1, 4, [.int .i32 0]⟩
theorem tiok121 : TIOk Try.prog 121 ti121 := TIOk.of (Try.underlying121) (by kernel_rfl) (by kernel_rfl) (by kernel_rfl) (by kernel_rfl) (by kernel_rfl) (by kernel_rfl)
def ti122 : TI := ⟨.int .i32, 1, 4, [.int .i32 0]⟩
theorem tiok122 : TIOk Try.prog 122 ti122 := TIOk.of (Try.underlying122) (by kernel_rfl) (by kernel_rfl) (by kernel_rfl) (by kernel_rfl) (by kernel_rfl) (by kernel_rfl)
def ti125 : TI := ⟨.struct [(0, 9)], 1, 16, [.str []]⟩
theorem tiok125 : TIOk Try.prog 125 ti125 := TIOk.of ⟨_, Try.underlying125, rfl⟩ (by kernel_rfl) (by kernel_rfl) (by kernel_rfl) (by kernel_rfl) (by kernel_rfl) (by kernel_rfl)
def ti126 : TI := ⟨.struct [(0, 9)], 1, 16, [.str []]⟩
theorem tiok126 : TIOk Try.prog 126 ti126 := TIOk.of ⟨_, Try.underlying126, rfl⟩ (by kernel_rfl) (by kernel_rfl) (by kernel_rfl) (by kernel_rfl) (by kernel_rfl) (by kernel_rfl)
def tabL : List (Nat × TI) := [(2, ti2), (3, ti3), (4, ti4), (5, ti5), (6, ti6), (7, ti7), (8, ti8), (9, ti9), (10, ti10), (11, ti11), (12, ti12), (13, ti13), (14, ti14), (15, ti15), (16, ti16), (17, ti17), (18, ti18), (19, ti19), (20, ti20), (21, ti21), (22, ti22), (24, ti24), (25, ti25), (34, ti34), (35, ti35), (38, ti38), (64, ti64), (67, ti67), (76, ti76), (77, ti77), (84, ti84), (93, ti93), (94, ti94), (100, ti100), (104, ti104), (106, ti106), (109, ti109), (111, ti111), (112, ti112), (113, ti113), (114, ti114), (115, ti115), (117, ti117), (118, ti118), (120, ti120), (121, ti121), (122, ti122), (125, ti125), (126, ti126)]
def tab (t : Nat) : Option TI := lookT tabL t
theorem tabOk : TabOk Try.prog tab := fun _ _ h => allT (show AllT Try.prog tabL from ⟨tiok2, tiok3, tiok4, tiok5, tiok6, tiok7, tiok8, tiok9, tiok10, tiok11, tiok12, tiok13, tiok14, tiok15, tiok16, tiok17, tiok18, tiok19, tiok20, tiok21, tiok22, tiok24, tiok25, tiok34, tiok35, tiok38, tiok64, tiok67, tiok76, tiok77, tiok84, tiok93, tiok94, tiok100, tiok104, tiok106, tiok109, tiok111, tiok112, tiok113, tiok114, tiok115, tiok117, tiok118, tiok120, tiok121, tiok122, tiok125, tiok126, trivial⟩) h
@[simp] theorem tab_2 : tab 2 = some ⟨.int .i64, 1, 8, [.int .i64 0]⟩ := rfl
@[simp] theorem tab_3 : tab 3 = some ⟨.int .i64, 1, 8, [.int .i64 0]⟩ := rfl
@[simp] theorem tab_4 : tab 4 = some ⟨.bool, 1, 1, [.bool false]⟩ := rfl
@[simp] theorem tab_5 : tab 5 = some ⟨.int .u8, 1, 1, [.int .u8 0]⟩ := rfl
@[simp] theorem tab_6 : tab 6 = some ⟨.int .u8, 1, 1, [.int .u8 0]⟩ := rfl
@[simp] theorem tab_7 : tab 7 = some ⟨.struct [(0, 2), (1, 3), (2, 4), (3, 6)], 4, 24, [.int .i64 0, .int .i64 0, .bool false, .int .u8 0]⟩ := rfl
@[simp] theorem tab_8 : tab 8 = some ⟨.struct [(0, 2), (1, 3), (2, 4), (3, 6)], 4, 24, [.int .i64 0, .int .i64 0, .bool false, .int .u8 0]⟩ := rfl
@[simp] theorem tab_9 : tab 9 = some ⟨.str, 1, 16, [.str []]⟩ := rfl
@[simp] theorem tab_10 : tab 10 = some ⟨.str, 1, 16, [.str []]⟩ := rfl
@[simp] theorem tab_11 : tab 11 = some ⟨.str, 1, 16, [.str []]⟩ := rfl
@[simp] theorem tab_12 : tab 12 = some ⟨.int .u64, 1, 8, [.int .u64 0]⟩ := rfl
@[simp] theorem tab_13 : tab 13 = some ⟨.struct [(0, 9), (1, 12)], 2, 24, [.str [], .int .u64 0]⟩ := rfl
@[simp] theorem tab_14 : tab 14 = some ⟨.struct [(0, 9), (1, 12)], 2, 24, [.str [], .int .u64 0]⟩ := rfl
@[simp] theorem tab_15 : tab 15 = some ⟨.ptr 112, 1, 8, [.nilp]⟩ := rfl
@[simp] theorem tab_16 : tab 16 = some ⟨.ptr 115, 1, 8, [.nilp]⟩ := rfl
@[simp] theorem tab_17 : tab 17 = some ⟨.ptr 124, 1, 8, [.nilp]⟩ := rfl
@[simp] theorem tab_18 : tab 18 = some ⟨.struct [(0, 17)], 1, 8, [.nilp]⟩ := rfl
@[simp] theorem tab_19 : tab 19 = some ⟨.struct [(0, 17)], 1, 8, [.nilp]⟩ := rfl
@[simp] theorem tab_20 : tab 20 = some ⟨.iface, 1, 16, [.nili]⟩ := rfl
@[simp] theorem tab_21 : tab 21 = some ⟨.int .i32, 1, 4, [.int .i32 0]⟩ := rfl
@[simp] theorem tab_22 : tab 22 = some ⟨.slice 35, 1, 24, [.nil]⟩ := rfl
@[simp] theorem tab_24 : tab 24 = some ⟨.slice 3, 1, 24, [.nil]⟩ := rfl
@[simp] theorem tab_25 : tab 25 = some ⟨.int .i64, 1, 8, [.int .i64 0]⟩ := rfl
@[simp] theorem tab_34 : tab 34 = some ⟨.struct [(0, 3), (1, 3), (2, 3), (3, 3)], 4, 32, [.int .i64 0, .int .i64 0, .int .i64 0, .int .i64 0]⟩ := rfl
@[simp] theorem tab_35 : tab 35 = some ⟨.struct [(0, 3), (1, 3), (2, 3), (3, 3)], 4, 32, [.int .i64 0, .int .i64 0, .int .i64 0, .int .i64 0]⟩ := rfl
@[simp] theorem tab_38 : tab 38 = some ⟨.int .u32, 1, 4, [.int .u32 0]⟩ := rfl
@[simp] theorem tab_64 : tab 64 = some ⟨.int .u64, 1, 8, [.int .u64 0]⟩ := rfl
@[simp] theorem tab_67 : tab 67 = some ⟨.int .u64, 1, 8, [.int .u64 0]⟩ := rfl
@[simp] theorem tab_76 : tab 76 = some ⟨.struct [(0, 4), (1, 24)], 2, 32, [.bool false, .nil]⟩ := rfl
@[simp] theorem tab_77 : tab 77 = some ⟨.struct [(0, 4), (1, 24)], 2, 32, [.bool false, .nil]⟩ := rfl
@[simp] theorem tab_84 : tab 84 = some ⟨.int .i64, 1, 8, [.int .i64 0]⟩ := rfl
@[simp] theorem tab_93 : tab 93 = some ⟨.iface, 1, 16, [.nili]⟩ := rfl
@[simp] theorem tab_94 : tab 94 = some ⟨.iface, 1, 16, [.nili]⟩ := rfl
@[simp] theorem tab_100 : tab 100 = some ⟨.int .u64, 1, 8, [.int .u64 0]⟩ := rfl
@[simp] theorem tab_104 : tab 104 = some ⟨.ptr 3, 1, 8, [.nilp]⟩ := rfl
@[simp] theorem tab_106 : tab 106 = some ⟨.ptr 100, 1, 8, [.nilp]⟩ := rfl
@[simp] theorem tab_109 : tab 109 = some ⟨.ptr 126, 1, 8, [.nilp]⟩ := rfl
@[simp] theorem tab_111 : tab 111 = some ⟨.struct [(0, 17), (1, 17), (2, 17), (3, 9)], 4, 40, [.nilp, .nilp, .nilp, .str []]⟩ := rfl
@[simp] theorem tab_112 : tab 112 = some ⟨.struct [(0, 17), (1, 17), (2, 17), (3, 9)], 4, 40, [.nilp, .nilp, .nilp, .str []]⟩ := rfl
@[simp] theorem tab_113 : tab 113 = some ⟨.array 0 16, 0, 0, []⟩ := rfl
@[simp] theorem tab_114 : tab 114 = some ⟨.struct [(0, 113)], 0, 0, []⟩ := rfl
@[simp] theorem tab_115 : tab 115 = some ⟨.struct [(0, 113)], 0, 0, []⟩ := rfl
@[simp] theorem tab_117 : tab 117 = some ⟨.int .u8, 1, 1, [.int .u8 0]⟩ := rfl
@[simp] theorem tab_118 : tab 118 = some ⟨.int .u8, 1, 1, [.int .u8 0]⟩ := rfl
@[simp] theorem tab_120 : tab 120 = some ⟨.ptr 5, 1, 8, [.nilp]⟩ := rfl
@[simp] theorem tab_121 : tab 121 = some ⟨.int .i32, 1, 4, [.int .i32 0]⟩ := rfl
@[simp] theorem tab_122 : tab 122 = some ⟨.int .i32, 1, 4, [.int .i32 0]⟩ := rfl
@[simp] theorem tab_125 : tab 125 = some ⟨.struct [(0, 9)], 1, 16, [.str []]⟩ := rfl
@[simp] theorem tab_126 : tab 126 = some ⟨.struct [(0, 9)], 1, 16, [.str []]⟩ := rfl
theorem call_3 : Callable Try.prog 3 := ⟨⟨_, Try.func3, by kernel_rfl, by kernel_rfl⟩⟩
theorem call_4 : Callable Try.prog 4 := ⟨⟨_, Try.func4, by kernel_rfl, by kernel_rfl⟩⟩
theorem call_5 : Callable Try.prog 5 := ⟨⟨_, Try.func5, by kernel_rfl, by kernel_rfl⟩⟩
theorem call_6 : Callable Try.prog 6 := ⟨⟨_, Try.func6, by kernel_rfl, by kernel_rfl⟩⟩
theorem call_7 : Callable Try.prog 7 := ⟨⟨_, Try.func7, by kernel_rfl, by kernel_rfl⟩⟩
theorem call_8 : Callable Try.prog 8 := ⟨⟨_, Try.func8, by kernel_rfl, by kernel_rfl⟩⟩
theorem call_9 : Callable Try.prog 9 := ⟨⟨_, Try.func9, by kernel_rfl, by kernel_rfl⟩⟩
theorem call_10 : Callable Try.prog 10 := ⟨⟨_, Try.func10, by kernel_rfl, by kernel_rfl⟩⟩
theorem call_11 : Callable Try.prog 11 := ⟨⟨_, Try.func11, by kernel_rfl, by kernel_rfl⟩⟩
theorem call_12 : Callable Try.prog 12 := ⟨⟨_, Try.func12, by kernel_rfl, by kernel_rfl⟩⟩
theorem call_13 : Callable Try.prog 13 := ⟨⟨_, Try.func13, by kernel_rfl, by kernel_rfl⟩⟩
theorem call_14 : Callable Try.prog 14 := ⟨⟨_, Try.func14, by kernel_rfl, by kernel_rfl⟩⟩
theorem call_15 : Callable Try.prog 15 := ⟨⟨_, Try.func15, by kernel_rfl, by kernel_rfl⟩⟩
theorem call_16 : Callable Try.prog 16 := ⟨⟨_, Try.func16, by kernel_rfl, by kernel_rfl⟩⟩
theorem call_17 : Callable Try.prog 17 := ⟨⟨_, Try.func17, by kernel_rfl, by kernel_rfl⟩⟩
theorem call_18 : Callable Try.prog 18 := ⟨⟨_, Try.func18, by kernel_rfl, by kernel_rfl⟩⟩
theorem call_19 : Callable Try.prog 19 := ⟨⟨_, Try.func19, by kernel_rfl, by kernel_rfl⟩⟩
theorem call_20 : Callable Try.prog 20 := ⟨⟨_, Try.func20, by kernel_rfl, by kernel_rfl⟩⟩
theorem call_21 : Callable Try.prog 21 := ⟨⟨_, Try.func21, by kernel_rfl, by kernel_rfl⟩⟩
theorem call_22 : Callable Try.prog 22 := ⟨⟨_, Try.func22, by kernel_rfl, by kernel_rfl⟩⟩
theorem call_23 : Callable Try.prog 23 := ⟨⟨_, Try.func23, by kernel_rfl, by kernel_rfl⟩⟩
theorem call_24 : Callable Try.prog 24 := ⟨⟨_, Try.func24, by kernel_rfl, by kernel_rfl⟩⟩
theorem call_25 : Callable Try.prog 25 := ⟨⟨_, Try.func25, by kernel_rfl, by kernel_rfl⟩⟩
theorem call_26 : Callable Try.prog 26 := ⟨⟨_, Try.func26, by kernel_rfl, by kernel_rfl⟩⟩
theorem call_27 : Callable Try.prog 27 := ⟨⟨_, Try.func27, by kernel_rfl, by kernel_rfl⟩⟩
theorem call_28 : Callable Try.prog 28 := ⟨⟨_, Try.func28, by kernel_rfl, by kernel_rfl⟩⟩
theorem call_29 : Callable Try.prog 29 := ⟨⟨_, Try.func29, by kernel_rfl, by kernel_rfl⟩⟩
theorem call_30 : Callable Try.prog 30 := ⟨⟨_, Try.func30, by kernel_rfl, by kernel_rfl⟩⟩
theorem call_31 : Callable Try.prog 31 := ⟨⟨_, Try.func31, by kernel_rfl, by kernel_rfl⟩⟩
theorem call_32 : Callable Try.prog 32 := ⟨⟨_, Try.func32, by kernel_rfl, by kernel_rfl⟩⟩
theorem call_33 : Callable Try.prog 33 := ⟨⟨_, Try.func33, by kernel_rfl, by kernel_rfl⟩⟩
theorem call_34 : Callable Try.prog 34 := ⟨⟨_, Try.func34, by kernel_rfl, by kernel_rfl⟩⟩
theorem call_35 : Callable Try.prog 35 := ⟨⟨_, Try.func35, by kernel_rfl, by kernel_rfl⟩⟩
theorem call_36 : Callable Try.prog 36 := ⟨⟨_, Try.func36, by kernel_rfl, by kernel_rfl⟩⟩
theorem call_37 : Callable Try.prog 37 := ⟨⟨_, Try.func37, by kernel_rfl, by kernel_rfl⟩⟩
theorem call_38 : Callable Try.prog 38 := ⟨⟨_, Try.func38, by kernel_rfl, by kernel_rfl⟩⟩
theorem call_39 : Callable Try.prog 39 := ⟨⟨_, Try.func39, by kernel_rfl, by kernel_rfl⟩⟩
theorem call_40 : Callable Try.prog 40 := ⟨⟨_, Try.func40, by kernel_rfl, by kernel_rfl⟩⟩
theorem call_41 : Callable Try.prog 41 := ⟨⟨_, Try.func41, by kernel_rfl, by kernel_rfl⟩⟩
theorem call_42 : Callable Try.prog 42 := ⟨⟨_, Try.func42, by kernel_rfl, by kernel_rfl⟩⟩
theorem call_43 : Callable Try.prog 43 := ⟨⟨_, Try.func43, by kernel_rfl, by kernel_rfl⟩⟩
theorem call_44 : Callable Try.prog 44 := ⟨⟨_, Try.func44, by kernel_rfl, by kernel_rfl⟩⟩
theorem call_45 : Callable Try.prog 45 := ⟨⟨_, Try.func45, by kernel_rfl, by kernel_rfl⟩⟩
theorem call_46 : Callable Try.prog 46 := ⟨⟨_, Try.func46, by kernel_rfl, by kernel_rfl⟩⟩
theorem call_47 : Callable Try.prog 47 := ⟨⟨_, Try.func47, by kernel_rfl, by kernel_rfl⟩⟩
theorem call_48 : Callable Try.prog 48 := ⟨⟨_, Try.func48, by kernel_rfl, by kernel_rfl⟩⟩
theorem call_49 : Callable Try.prog 49 := ⟨⟨_, Try.func49, by kernel_rfl, by kernel_rfl⟩⟩
theorem call_50 : Callable Try.prog 50 := ⟨⟨_, Try.func50, by kernel_rfl, by kernel_rfl⟩⟩
theorem call_51 : Callable Try.prog 51 := ⟨⟨_, Try.func51, by kernel_rfl, by kernel_rfl⟩⟩
theorem call_52 : Callable Try.prog 52 := ⟨⟨_, Try.func52, by kernel_rfl, by kernel_rfl⟩⟩
theorem call_53 : Callable Try.prog 53 := ⟨⟨_, Try.func53, by kernel_rfl, by kernel_rfl⟩⟩
theorem call_54 : Callable Try.prog 54 := ⟨⟨_, Try.func54, by kernel_rfl, by kernel_rfl⟩⟩
theorem call_55 : Callable Try.prog 55 := ⟨⟨_, Try.func55, by kernel_rfl, by kernel_rfl⟩⟩
theorem call_56 : Callable Try.prog 56 := ⟨⟨_, Try.func56, by kernel_rfl, by kernel_rfl⟩⟩
theorem call_57 : Callable Try.prog 57 := ⟨⟨_, Try.func57, by kernel_rfl, by kernel_rfl⟩⟩
theorem call_58 : Callable Try.prog 58 := ⟨⟨_, Try.func58, by kernel_rfl, by kernel_rfl⟩⟩
theorem call_59 : Callable Try.prog 59 := ⟨⟨_, Try.func59, by kernel_rfl, by kernel_rfl⟩⟩
theorem call_60 : Callable Try.prog 60 := ⟨⟨_, Try.func60, by kernel_rfl, by kernel_rfl⟩⟩
theorem call_61 : Callable Try.prog 61 := ⟨⟨_, Try.func61, by kernel_rfl, by kernel_rfl⟩⟩
theorem call_62 : Callable Try.prog 62 := ⟨⟨_, Try.func62, by kernel_rfl, by kernel_rfl⟩⟩
theorem call_63 : Callable Try.prog 63 := ⟨⟨_, Try.func63, by kernel_rfl, by kernel_rfl⟩⟩
theorem call_64 : Callable Try.prog 64 := ⟨⟨_, Try.func64, by kernel_rfl, by kernel_rfl⟩⟩
theorem call_65 : Callable Try.prog 65 := ⟨⟨_, Try.func65, by kernel_rfl, by kernel_rfl⟩⟩
theorem call_66 : Callable Try.prog 66 := ⟨⟨_, Try.func66, by kernel_rfl, by kernel_rfl⟩⟩
theorem call_67 : Callable Try.prog 67 := ⟨⟨_, Try.func67, by kernel_rfl, by kernel_rfl⟩⟩
theorem call_68 : Callable Try.prog 68 := ⟨⟨_, Try.func68, by kernel_rfl, by kernel_rfl⟩⟩
theorem call_69 : Callable Try.prog 69 := ⟨⟨_, Try.func69, by kernel_rfl, by kernel_rfl⟩⟩
theorem call_70 : Callable Try.prog 70 := ⟨⟨_, Try.func70, by kernel_rfl, by kernel_rfl⟩⟩
theorem call_71 : Callable Try.prog 71 := ⟨⟨_, Try.func71, by kernel_rfl, by kernel_rfl⟩⟩
theorem call_72 : Callable Try.prog 72 := ⟨⟨_, Try.func72, by kernel_rfl, by kernel_rfl⟩⟩
theorem call_73 : Callable Try.prog 73 := ⟨⟨_, Try.func73, by kernel_rfl, by kernel_rfl⟩⟩
theorem call_74 : Callable Try.prog 74 := ⟨⟨_, Try.func74, by kernel_rfl, by kernel_rfl⟩⟩
theorem call_75 : Callable Try.prog 75 := ⟨⟨_, Try.func75, by kernel_rfl, by kernel_rfl⟩⟩
theorem call_76 : Callable Try.prog 76 := ⟨⟨_, Try.func76, by kernel_rfl, by kernel_rfl⟩⟩
theorem call_77 : Callable Try.prog 77 := ⟨⟨_, Try.func77, by kernel_rfl, by kernel_rfl⟩⟩
theorem call_78 : Callable Try.prog 78 := ⟨⟨_, Try.func78, by kernel_rfl, by kernel_rfl⟩⟩
theorem call_79 : Callable Try.prog 79 := ⟨⟨_, Try.func79, by kernel_rfl, by kernel_rfl⟩⟩
theorem call_80 : Callable Try.prog 80 := ⟨⟨_, Try.func80, by kernel_rfl, by kernel_rfl⟩⟩
theorem call_81 : Callable Try.prog 81 := ⟨⟨_, Try.func81, by kernel_rfl, by kernel_rfl⟩⟩
theorem call_82 : Callable Try.prog 82 := ⟨⟨_, Try.func82, by kernel_rfl, by kernel_rfl⟩⟩
theorem call_83 : Callable Try.prog 83 := ⟨⟨_, Try.func83, by kernel_rfl, by kernel_rfl⟩⟩
theorem call_84 : Callable Try.prog 84 := ⟨⟨_, Try.func84, by kernel_rfl, by kernel_rfl⟩⟩
@[simp] theorem bneI (a b : Int) : (a != b) = !decide (a = b) := by by_cases h : a = b <;> simp [h]
@[simp] theorem beqI (a b : Int) : (a == b) = decide (a = b) := by by_cases h : a = b <;> simp [h]
attribute [simp] frzAt List.take_of_length_le vids vidss cellD cellsD leR leA FV.le D.leL mskE mskS opTmps tmpsOf Op.operands Call.operands ptrsOf rdIds shIds isSh newOk gotE putE mvN mkEv wrEv updS getO Ev.app evDr1 evDr isStore ptrIds wrIds msk fids fidss oids evIds callS placesT evOne evPs ArgsOk ArgOk σ0 renE pickS srcV srcC evAp evCo seqQ blockQ retQ ren rens renO renOs σ1 setAll evOps wantS evOp evA evX evXs evOpt ofVal ofLeaf ofLeaves setS get evBin evInt evStr evCpx evFlt evLd evStN evIA evIx evFA evField evUn evCv evSl bnd ldD evBu lenV mxI mnI TI.ag D.cs elemAt mkV allD partV cellsV plainV fvCells spl evBd fillV partsD szD okEl TI.zeroD evB envFrom retAll retOne pack viewF viewFs D.flat D.flats flatV flatVs flatR keepE below belows belowE belowO belowS
end Go.Proofs.Ytaobnhenjldjeaa.Pay
/- What walks share: numbers, rows of numbers told by a function, pieces of lists. No statement of the seed is proved here. -/
namespace Go.Proofs.Ytaobnhenjldjeaa.Pay
open Go Go.Proofs
set_option linter.unusedVariables false
set_option linter.unusedSimpArgs false

@[reducible] def dI (n : Int) : D := .int .i64 n
theorem take_all {α : Type} (p : α → Bool) {l : List α} {k : Nat} (h : k < l.length) : (l.take (k + 1)).all p = ((l.take k).all p && p l[k]) := by
  rw [List.take_add_one, List.getElem?_eq_getElem h]; simp only [Option.toList_some, List.all_append, List.all_cons, List.all_nil, Bool.and_true]
theorem any_take {α : Type} (f : α → Bool) {l : List α} {k : Nat} (h : k < l.length) : (l.take (k + 1)).any f = ((l.take k).any f || f l[k]) := by
  rw [List.take_add_one, List.getElem?_eq_getElem h]; simp only [Option.toList_some, List.any_append, List.any_cons, List.any_nil, Bool.or_false]

/-- A row of numbers, told by a function. -/
def rowF (g : Nat → Int) (n : Nat) : List D := (List.range n).map fun i => dI (g i)
def upd (g : Nat → Int) (i : Nat) (x : Int) : Nat → Int := fun j => if j = i then x else g j
@[simp] theorem rowF_len (g : Nat → Int) (n : Nat) : (rowF g n).length = n := by simp [rowF]
@[simp] theorem rowF_at (g : Nat → Int) (n i : Nat) (h : i < (rowF g n).length) : (rowF g n)[i] = dI (g i) := by simp [rowF]
theorem rowF_get {g : Nat → Int} {n i : Nat} (h : i < n) : (rowF g n)[i]? = some (dI (g i)) := by
  rw [List.getElem?_eq_getElem (by simpa using h), rowF_at]
@[simp] theorem rowF_set (g : Nat → Int) (n i : Nat) (x : Int) : (rowF g n).set i (.int .i64 x) = rowF (upd g i x) n := by
  apply List.ext_getElem?
  intro j
  rw [List.getElem?_set]
  by_cases hj : j < n
  · by_cases hij : i = j
    · subst hij; rw [if_pos rfl, if_pos (by simpa using hj), rowF_get hj, show upd g i x i = x from if_pos rfl]
    · rw [if_neg hij, rowF_get hj, rowF_get hj, show upd g i x j = g j from if_neg (Ne.symm hij)]
  · rw [List.getElem?_eq_none (by simp; omega), List.getElem?_eq_none (by simp; omega)]
    split
    · split
      · rename_i h1 h2; simp at h2; omega
      · rfl
    · rfl
theorem rowF_ext {g h : Nat → Int} {n : Nat} (e : ∀ i, i < n → g i = h i) : rowF g n = rowF h n := by
  unfold rowF
  exact List.map_congr_left fun i hi => by rw [e i (by simpa using hi)]
theorem rowF_of (l : List Int) : l.map dI = rowF (fun i => (l[i]?).getD 0) l.length := by
  apply List.ext_getElem?
  intro j
  by_cases hj : j < l.length
  · rw [rowF_get hj, List.getElem?_map, List.getElem?_eq_getElem hj]; rfl
  · rw [List.getElem?_eq_none (by simp; omega), List.getElem?_eq_none (by simp; omega)]
theorem shr1 {i j h : Nat} (hh : (i + j) / 2 = h) (hb : i + j ≤ 4000000000) : IntKind.i64.wrap ((IntKind.u64.wrap (IntKind.i64.wrap ((i : Int) + j))).fdiv (2 ^ min 1 IntKind.u64.bits)) = (h : Int) := by
  have h1 : IntKind.i64.wrap ((i : Int) + j) = i + j := wrapI (by omega) (by omega)
  have h2 : IntKind.u64.wrap ((i : Int) + j) = i + j := by simp [IntKind.wrap, IntKind.bits, IntKind.signed]; omega
  rw [h1, h2]
  have : ((2 : Int) ^ min 1 IntKind.u64.bits) = 2 := by decide
  rw [this, Int.fdiv_eq_ediv_of_nonneg _ (by omega), wrapI (by omega) (by omega)]
  omega
end Go.Proofs.Ytaobnhenjldjeaa.Pay
/- Products and quotients of 128 bits. No statement of the seed is proved here. -/
namespace Go.Proofs.Ytaobnhenjldjeaa.Pay
open Go Go.RowKit
set_option linter.unusedVariables false
set_option linter.unusedSimpArgs false

theorem wrapU {n : Int} (h1 : 0 ≤ n) (h2 : n < 18446744073709551616) : IntKind.u64.wrap n = n := by rw [IntKind.wrap_u64]; omega
theorem wrapUm (a : Nat) : IntKind.u64.wrap (a : Int) = ((a % 18446744073709551616 : Nat) : Int) := by rw [IntKind.wrap_u64]; omega
theorem maskU (a : Nat) (ha : a < 18446744073709551616) : bits .and .u64 (a : Int) 4294967295 = ((a % 4294967296 : Nat) : Int) := by
  have h := bits_and_u64_nat a 4294967295 ha (by omega)
  have e : a &&& 4294967295 = a % 4294967296 := Nat.and_two_pow_sub_one_eq_mod a 32
  rw [e] at h
  exact h
theorem minU {k : Nat} (h : k ≤ 64) : min k IntKind.u64.bits = k := by show min k 64 = k; omega
theorem shrU (a : Nat) {k : Nat} (h : k ≤ 64) : (a : Int).fdiv (2 ^ min k IntKind.u64.bits) = ((a / 2 ^ k : Nat) : Int) := by
  rw [minU h, Int.fdiv_eq_ediv_of_nonneg _ (Int.le_of_lt (Int.pow_pos (by decide)))]
  rw [show (2 : Int) ^ k = ((2 ^ k : Nat) : Int) from by simp, ← Int.natCast_ediv]
theorem shlU (a : Nat) {k : Nat} (h : k ≤ 64) : IntKind.u64.wrap ((a : Int) * 2 ^ min k IntKind.u64.bits) = ((a * 2 ^ k % 18446744073709551616 : Nat) : Int) := by
  rw [minU h, show (2 : Int) ^ k = ((2 ^ k : Nat) : Int) from by simp, ← Int.natCast_mul, wrapUm]
theorem sh32 (a : Nat) : (a : Int).fdiv (2 ^ min 32 IntKind.u64.bits) = ((a / 4294967296 : Nat) : Int) := shrU a (by decide)
theorem mulU {a b p : Nat} (hp : a * b = p) (h : p < 18446744073709551616) : IntKind.u64.wrap ((a : Int) * b) = (p : Int) := by
  rw [← Int.natCast_mul, hp, wrapUm]; omega
theorem addU {a b p : Nat} (hp : a + b = p) (h : p < 18446744073709551616) : IntKind.u64.wrap ((a : Int) + b) = (p : Int) := by
  rw [← Int.natCast_add, hp, wrapUm]; omega

theorem size_ok (n : Int) (h : -9223372036854775808 ≤ n ∧ n ≤ 9223372036854775807) : Gives Try.prog 46 [.d (dI n)] (.d (.int .u64 n.natAbs)) := by
  have hw1 : n < 0 → IntKind.u64.wrap (-(IntKind.u64.wrap n)) = n.natAbs := fun h0 => by rw [IntKind.wrap_u64, IntKind.wrap_u64]; omega
  have hw2 : ¬ n < 0 → IntKind.u64.wrap n = n.natAbs := fun h0 => by rw [IntKind.wrap_u64]; omega
  refine Gives.enter tabOk Try.func46 rfl (by show 1 ≤ 10; decide) ?_
  simp only [Try.f46]
  refine WpC.seq (WpC.ops tabOk (r := []) (by simp -implicitDefEqProofs <;> rfl) rfl ?_)
  refine WpC.seq ?_
  refine WpC.seq (WpC.ops tabOk (r := []) (by simp -implicitDefEqProofs <;> rfl) rfl ?_)
  refine WpC.condD (n < 0) (by simp -implicitDefEqProofs) (fun d4 => ?_) (fun d4 => ?_)
  · have hw := hw1 d4
    refine WpC.seq (WpC.ops tabOk (r := []) (by simp -implicitDefEqProofs [d4, hw] <;> rfl) rfl ?_)
    refine WpC.ret ?_
    try simp only [blockQ, seqQ]
    refine retD_i (by simp -implicitDefEqProofs [d4, hw] <;> rfl) (by simp -implicitDefEqProofs [d4, hw] <;> rfl) ?_
    simp -implicitDefEqProofs [d4, hw]
  · have hw := hw2 d4
    refine WpC.skip ?_
    refine WpC.seq (WpC.ops tabOk (r := []) (by simp -implicitDefEqProofs [d4, hw] <;> rfl) rfl ?_)
    refine WpC.ret ?_
    try simp only [blockQ, seqQ]
    refine retD_i (by simp -implicitDefEqProofs [d4, hw] <;> rfl) (by simp -implicitDefEqProofs [d4, hw] <;> rfl) ?_
    simp -implicitDefEqProofs [d4, hw]

theorem mul64_ok (x y : Nat) (hx : x < 18446744073709551616) (hy : y < 18446744073709551616) :
    Gives Try.prog 45 [.d (.int .u64 x), .d (.int .u64 y)] (.tup [.d (.int .u64 ((x * y / 18446744073709551616 : Nat) : Int)), .d (.int .u64 ((x * y % 18446744073709551616 : Nat) : Int))]) := by
  obtain ⟨bd, bt, bw, hhi⟩ := Go.Lib.mul64_hi x y hx hy
  have hlo : IntKind.u64.wrap ((x : Int) * y) = ((x * y % 18446744073709551616 : Nat) : Int) := by rw [← Int.natCast_mul, wrapUm]
  have m1 := maskU x hx
  have m2 := maskU y hy
  have s1 := sh32 x
  have s2 := sh32 y
  rw [← hhi]
  obtain ⟨x0, hx0⟩ : ∃ q, x % 4294967296 = q := ⟨_, rfl⟩
  obtain ⟨x1, hx1⟩ : ∃ q, x / 4294967296 = q := ⟨_, rfl⟩
  obtain ⟨y0, hy0⟩ : ∃ q, y % 4294967296 = q := ⟨_, rfl⟩
  obtain ⟨y1, hy1⟩ : ∃ q, y / 4294967296 = q := ⟨_, rfl⟩
  have ba := Go.Lib.half_mul_le (a := x1) (b := y1) (by omega) (by omega)
  have bb := Go.Lib.half_mul_le (a := x1) (b := y0) (by omega) (by omega)
  have bc := Go.Lib.half_mul_le (a := x0) (b := y1) (by omega) (by omega)
  simp only [hx0, hx1, hy0, hy1] at bd bt bw hhi m1 m2 s1 s2 ⊢
  obtain ⟨w0, hw0⟩ : ∃ q, x0 * y0 = q := ⟨_, rfl⟩
  obtain ⟨p10, hp10⟩ : ∃ q, x1 * y0 = q := ⟨_, rfl⟩
  obtain ⟨p01, hp01⟩ : ∃ q, x0 * y1 = q := ⟨_, rfl⟩
  obtain ⟨p11, hp11⟩ : ∃ q, x1 * y1 = q := ⟨_, rfl⟩
  rw [hw0] at bd
  rw [hw0, hp10] at bt
  rw [hw0, hp10, hp01] at bw
  rw [hw0, hp10, hp01, hp11] at hhi ⊢
  rw [hp11] at ba
  rw [hp10] at bb
  rw [hp01] at bc
  have e1 := mulU hw0 (by omega)
  have e2 := mulU hp10 (by omega)
  have e3 := mulU hp01 (by omega)
  have e4 := mulU hp11 (by omega)
  have e5 := sh32 w0
  obtain ⟨w0h, hw0h⟩ : ∃ q, w0 / 4294967296 = q := ⟨_, rfl⟩
  rw [hw0h] at e5 bt bw hhi ⊢
  obtain ⟨t, ht⟩ : ∃ q, p10 + w0h = q := ⟨_, rfl⟩
  rw [ht] at bt bw hhi ⊢
  have e6 := addU ht (by omega)
  have e7 := maskU t (by omega)
  have e8 := sh32 t
  obtain ⟨tl, htl⟩ : ∃ q, t % 4294967296 = q := ⟨_, rfl⟩
  obtain ⟨th, hth⟩ : ∃ q, t / 4294967296 = q := ⟨_, rfl⟩
  rw [htl] at e7 bw hhi ⊢
  rw [hth] at e8 hhi ⊢
  obtain ⟨w1, hw1⟩ : ∃ q, tl + p01 = q := ⟨_, rfl⟩
  rw [hw1] at bw hhi ⊢
  have e9 := addU hw1 (by omega)
  have e10 := sh32 w1
  obtain ⟨w1h, hw1h⟩ : ∃ q, w1 / 4294967296 = q := ⟨_, rfl⟩
  rw [hw1h] at e10 hhi ⊢
  obtain ⟨s, hs⟩ : ∃ q, p11 + th = q := ⟨_, rfl⟩
  have e11 := addU hs (by omega)
  rw [hs] at hhi ⊢
  obtain ⟨hi, hhi'⟩ : ∃ q, s + w1h = q := ⟨_, rfl⟩
  have e12 := addU hhi' (by omega)
  rw [hhi'] at hhi ⊢
  refine Gives.enter tabOk Try.func45 rfl (by show 2 ≤ 51; decide) ?_
  simp only [Try.f45]
  refine WpC.seq (WpC.ops tabOk (r := []) (by simp -implicitDefEqProofs [hlo, m1, m2, s1, s2, e1, e2, e3, e4, e5, e6, e7, e8, e9, e10, e11, e12] <;> rfl) rfl ?_)
  refine WpC.seq (WpC.ops tabOk (r := []) (by simp -implicitDefEqProofs [hlo, m1, m2, s1, s2, e1, e2, e3, e4, e5, e6, e7, e8, e9, e10, e11, e12] <;> rfl) rfl ?_)
  refine WpC.seq (WpC.ops tabOk (r := []) (by simp -implicitDefEqProofs [hlo, m1, m2, s1, s2, e1, e2, e3, e4, e5, e6, e7, e8, e9, e10, e11, e12] <;> rfl) rfl ?_)
  refine WpC.seq (WpC.ops tabOk (r := []) (by simp -implicitDefEqProofs [hlo, m1, m2, s1, s2, e1, e2, e3, e4, e5, e6, e7, e8, e9, e10, e11, e12] <;> rfl) rfl ?_)
  refine WpC.seq (WpC.ops tabOk (r := []) (by simp -implicitDefEqProofs [hlo, m1, m2, s1, s2, e1, e2, e3, e4, e5, e6, e7, e8, e9, e10, e11, e12] <;> rfl) rfl ?_)
  refine WpC.seq (WpC.ops tabOk (r := []) (by simp -implicitDefEqProofs [hlo, m1, m2, s1, s2, e1, e2, e3, e4, e5, e6, e7, e8, e9, e10, e11, e12] <;> rfl) rfl ?_)
  refine WpC.seq (WpC.ops tabOk (r := []) (by simp -implicitDefEqProofs [hlo, m1, m2, s1, s2, e1, e2, e3, e4, e5, e6, e7, e8, e9, e10, e11, e12] <;> rfl) rfl ?_)
  refine WpC.seq (WpC.ops tabOk (r := []) (by simp -implicitDefEqProofs [hlo, m1, m2, s1, s2, e1, e2, e3, e4, e5, e6, e7, e8, e9, e10, e11, e12] <;> rfl) rfl ?_)
  refine WpC.seq (WpC.ops tabOk (r := []) (by simp -implicitDefEqProofs [hlo, m1, m2, s1, s2, e1, e2, e3, e4, e5, e6, e7, e8, e9, e10, e11, e12] <;> rfl) rfl ?_)
  refine WpC.seq (WpC.ops tabOk (r := []) (by simp -implicitDefEqProofs [hlo, m1, m2, s1, s2, e1, e2, e3, e4, e5, e6, e7, e8, e9, e10, e11, e12] <;> rfl) rfl ?_)
  refine WpC.seq (WpC.ops tabOk (r := []) (by simp -implicitDefEqProofs [hlo, m1, m2, s1, s2, e1, e2, e3, e4, e5, e6, e7, e8, e9, e10, e11, e12] <;> rfl) rfl ?_)
  refine WpC.seq (WpC.ops tabOk (r := []) (by simp -implicitDefEqProofs [hlo, m1, m2, s1, s2, e1, e2, e3, e4, e5, e6, e7, e8, e9, e10, e11, e12] <;> rfl) rfl ?_)
  refine WpC.ret ?_
  try simp only [blockQ, seqQ]
  refine retD_i (by simp -implicitDefEqProofs [hlo, m1, m2, s1, s2, e1, e2, e3, e4, e5, e6, e7, e8, e9, e10, e11, e12] <;> rfl) (by simp -implicitDefEqProofs [hlo, m1, m2, s1, s2, e1, e2, e3, e4, e5, e6, e7, e8, e9, e10, e11, e12] <;> rfl) ?_
  simp -implicitDefEqProofs [hlo, m1, m2, s1, s2, e1, e2, e3, e4, e5, e6, e7, e8, e9, e10, e11, e12]
end Go.Proofs.Ytaobnhenjldjeaa.Pay
/- math/bits: Len64, Div64. No statement of the seed is proved here. -/
namespace Go.Proofs.Ytaobnhenjldjeaa.Pay
open Go Go.RowKit
set_option linter.unusedVariables false
set_option linter.unusedSimpArgs false

theorem log2_shift {y k : Nat} (h : 2 ^ k ≤ y) : 0 < y / 2 ^ k ∧ y.log2 = k + (y / 2 ^ k).log2 := by
  have hk : 0 < 2 ^ k := Nat.two_pow_pos k
  have h1 : 0 < y / 2 ^ k := Nat.div_pos h hk
  refine ⟨h1, ?_⟩
  have hy : y ≠ 0 := by omega
  rw [Nat.log2_eq_iff hy]
  have h2 := Nat.log2_self_le (n := y / 2 ^ k) (by omega)
  have h3 := Nat.lt_log2_self (n := y / 2 ^ k)
  obtain ⟨l, hl⟩ : ∃ l, (y / 2 ^ k).log2 = l := ⟨_, rfl⟩
  rw [hl] at h2 h3 ⊢
  refine ⟨?_, ?_⟩
  · rw [Nat.pow_add, Nat.mul_comm]
    exact Nat.le_trans (Nat.mul_le_mul_right _ h2) (Nat.div_mul_le_self y _)
  · rw [Nat.add_assoc, Nat.pow_add, Nat.mul_comm]
    exact (Nat.div_lt_iff_lt_mul hk).1 h3

theorem len64_ok (y : Nat) (h0 : 0 < y) (hy : y < 18446744073709551616) : Gives Try.prog 69 [.d (.int .u64 y)] (.d (dI (y.log2 + 1))) := by
  obtain ⟨x1, n1, hx1, hxl1, hn1, hl1, ha1, hb1⟩ : ∃ x1 n1 : Nat, 0 < x1 ∧ x1 < 4294967296 ∧ n1 ≤ 32 ∧ y.log2 = n1 + x1.log2 ∧ (4294967296 ≤ y → x1 = y / 4294967296 ∧ n1 = 32) ∧ (¬ 4294967296 ≤ y → x1 = y ∧ n1 = 0) := by
    by_cases h : 4294967296 ≤ y
    · obtain ⟨h1, h2⟩ := log2_shift (k := 32) h
      exact ⟨y / 4294967296, 32, h1, by omega, by omega, h2, fun _ => ⟨rfl, rfl⟩, fun q => absurd h q⟩
    · exact ⟨y, 0, h0, by omega, by omega, by omega, fun q => absurd q h, fun _ => ⟨rfl, rfl⟩⟩
  obtain ⟨x2, n2, hx2, hxl2, hn2, hl2, ha2, hb2⟩ : ∃ x2 n2 : Nat, 0 < x2 ∧ x2 < 65536 ∧ n2 ≤ 48 ∧ y.log2 = n2 + x2.log2 ∧ (65536 ≤ x1 → x2 = x1 / 65536 ∧ n2 = n1 + 16) ∧ (¬ 65536 ≤ x1 → x2 = x1 ∧ n2 = n1) := by
    by_cases h : 65536 ≤ x1
    · obtain ⟨h1, h2⟩ := log2_shift (k := 16) h
      exact ⟨x1 / 65536, n1 + 16, h1, by omega, by omega, by rw [hl1, h2, show (2 : Nat) ^ 16 = 65536 from rfl]; omega, fun _ => ⟨rfl, rfl⟩, fun q => absurd h q⟩
    · exact ⟨x1, n1, hx1, by omega, by omega, by omega, fun q => absurd q h, fun _ => ⟨rfl, rfl⟩⟩
  obtain ⟨x3, n3, hx3, hxl3, hn3, hl3, ha3, hb3⟩ : ∃ x3 n3 : Nat, 0 < x3 ∧ x3 < 256 ∧ n3 ≤ 56 ∧ y.log2 = n3 + x3.log2 ∧ (256 ≤ x2 → x3 = x2 / 256 ∧ n3 = n2 + 8) ∧ (¬ 256 ≤ x2 → x3 = x2 ∧ n3 = n2) := by
    by_cases h : 256 ≤ x2
    · obtain ⟨h1, h2⟩ := log2_shift (k := 8) h
      exact ⟨x2 / 256, n2 + 8, h1, by omega, by omega, by rw [hl2, h2, show (2 : Nat) ^ 8 = 256 from rfl]; omega, fun _ => ⟨rfl, rfl⟩, fun q => absurd h q⟩
    · exact ⟨x2, n2, hx2, by omega, by omega, by omega, fun q => absurd q h, fun _ => ⟨rfl, rfl⟩⟩
  have e1 : ((4294967296 : Int) ≤ (y : Int)) ↔ 4294967296 ≤ y := by omega
  have e2 : ((65536 : Int) ≤ (x1 : Int)) ↔ 65536 ≤ x1 := by omega
  have e3 : ((256 : Int) ≤ (x2 : Int)) ↔ 256 ≤ x2 := by omega
  have s1 := shrU y (k := 32) (by decide)
  have s2 := shrU x1 (k := 16) (by decide)
  have s3 := shrU x2 (k := 8) (by decide)
  rw [show (2 : Nat) ^ 32 = 4294967296 from rfl] at s1
  rw [show (2 : Nat) ^ 16 = 65536 from rfl] at s2
  rw [show (2 : Nat) ^ 8 = 256 from rfl] at s3
  have w1 : IntKind.i64.wrap ((n1 : Int) + 16) = ((n1 + 16 : Nat) : Int) := by rw [wrapI (by omega) (by omega)]; omega
  have w2 : IntKind.i64.wrap ((n2 : Int) + 8) = ((n2 + 8 : Nat) : Int) := by rw [wrapI (by omega) (by omega)]; omega
  have w3 : IntKind.u8.wrap (x3 : Int) = x3 := by simp [IntKind.wrap, IntKind.bits, IntKind.signed]; omega
  refine Gives.enter tabOk Try.func69 rfl (by show 1 ≤ 25; decide) ?_
  simp only [Try.f69]
  refine WpC.seq (WpC.ops tabOk (r := []) (by simp -implicitDefEqProofs [e1, e2, e3, s1, s2, s3, w1, w2, w3, hxl3] <;> rfl) rfl ?_)
  refine WpC.seq ?_
  refine WpC.seq (WpC.ops tabOk (r := []) (by simp -implicitDefEqProofs [e1, e2, e3, s1, s2, s3, w1, w2, w3, hxl3] <;> rfl) rfl ?_)
  refine WpC.join ⟨[(0, .d (.int .u64 x1)), (2, .d (dI n1))], [], 25, 0⟩ ?_ ?_
  · refine WpC.condD (4294967296 ≤ y) (by simp -implicitDefEqProofs [e1, e2, e3, s1, s2, s3, w1, w2, w3, hxl3]) (fun d4 => ?_) (fun d4 => ?_)
    · obtain ⟨u1, u2⟩ := ha1 d4
      subst u2
      have u1' := u1.symm
      refine WpC.seq (WpC.ops tabOk (r := []) (by simp -implicitDefEqProofs [e1, e2, e3, s1, s2, s3, w1, w2, w3, hxl3, d4, u1'] <;> rfl) rfl ?_)
      refine WpC.ops tabOk (r := []) (by simp -implicitDefEqProofs [e1, e2, e3, s1, s2, s3, w1, w2, w3, hxl3, d4, u1'] <;> rfl) rfl ?_
      exact ⟨rfl, Gh.cut' [0, 2] 0 (by simp -implicitDefEqProofs [e1, e2, e3, s1, s2, s3, w1, w2, w3, hxl3, d4, u1']) (by simp -implicitDefEqProofs [e1, e2, e3, s1, s2, s3, w1, w2, w3, hxl3, d4, u1']) rfl (by simp) (by simp) (by simp)⟩
    · obtain ⟨u1, u2⟩ := hb1 d4
      subst u1 u2
      refine WpC.skip ?_
      exact ⟨rfl, Gh.cut' [0, 2] 0 (by simp -implicitDefEqProofs [e1, e2, e3, s1, s2, s3, w1, w2, w3, hxl3, d4]) (by simp -implicitDefEqProofs [e1, e2, e3, s1, s2, s3, w1, w2, w3, hxl3, d4]) rfl (by simp) (by simp) (by simp)⟩
  · refine WpC.seq ?_
    refine WpC.seq (WpC.ops tabOk (r := []) (by simp -implicitDefEqProofs [e1, e2, e3, s1, s2, s3, w1, w2, w3, hxl3] <;> rfl) rfl ?_)
    refine WpC.join ⟨[(0, .d (.int .u64 x2)), (2, .d (dI n2))], [], 25, 0⟩ ?_ ?_
    · refine WpC.condD (65536 ≤ x1) (by simp -implicitDefEqProofs [e1, e2, e3, s1, s2, s3, w1, w2, w3, hxl3]) (fun d8 => ?_) (fun d8 => ?_)
      · obtain ⟨u1, u2⟩ := ha2 d8
        subst u2
        have u1' := u1.symm
        refine WpC.seq (WpC.ops tabOk (r := []) (by simp -implicitDefEqProofs [e1, e2, e3, s1, s2, s3, w1, w2, w3, hxl3, d8, u1'] <;> rfl) rfl ?_)
        refine WpC.ops tabOk (r := []) (by simp -implicitDefEqProofs [e1, e2, e3, s1, s2, s3, w1, w2, w3, hxl3, d8, u1'] <;> rfl) rfl ?_
        exact ⟨rfl, Gh.cut' [0, 2] 0 (by simp -implicitDefEqProofs [e1, e2, e3, s1, s2, s3, w1, w2, w3, hxl3, d8, u1']) (by simp -implicitDefEqProofs [e1, e2, e3, s1, s2, s3, w1, w2, w3, hxl3, d8, u1']) rfl (by simp) (by simp) (by simp)⟩
      · obtain ⟨u1, u2⟩ := hb2 d8
        subst u1 u2
        refine WpC.skip ?_
        exact ⟨rfl, Gh.cut' [0, 2] 0 (by simp -implicitDefEqProofs [e1, e2, e3, s1, s2, s3, w1, w2, w3, hxl3, d8]) (by simp -implicitDefEqProofs [e1, e2, e3, s1, s2, s3, w1, w2, w3, hxl3, d8]) rfl (by simp) (by simp) (by simp)⟩
    · refine WpC.seq ?_
      refine WpC.seq (WpC.ops tabOk (r := []) (by simp -implicitDefEqProofs [e1, e2, e3, s1, s2, s3, w1, w2, w3, hxl3] <;> rfl) rfl ?_)
      refine WpC.join ⟨[(0, .d (.int .u64 x3)), (2, .d (dI n3))], [], 25, 0⟩ ?_ ?_
      · refine WpC.condD (256 ≤ x2) (by simp -implicitDefEqProofs [e1, e2, e3, s1, s2, s3, w1, w2, w3, hxl3]) (fun d14 => ?_) (fun d14 => ?_)
        · obtain ⟨u1, u2⟩ := ha3 d14
          subst u2
          have u1' := u1.symm
          refine WpC.seq (WpC.ops tabOk (r := []) (by simp -implicitDefEqProofs [e1, e2, e3, s1, s2, s3, w1, w2, w3, hxl3, d14, u1'] <;> rfl) rfl ?_)
          refine WpC.ops tabOk (r := []) (by simp -implicitDefEqProofs [e1, e2, e3, s1, s2, s3, w1, w2, w3, hxl3, d14, u1'] <;> rfl) rfl ?_
          exact ⟨rfl, Gh.cut' [0, 2] 0 (by simp -implicitDefEqProofs [e1, e2, e3, s1, s2, s3, w1, w2, w3, hxl3, d14, u1']) (by simp -implicitDefEqProofs [e1, e2, e3, s1, s2, s3, w1, w2, w3, hxl3, d14, u1']) rfl (by simp) (by simp) (by simp)⟩
        · obtain ⟨u1, u2⟩ := hb3 d14
          subst u1 u2
          refine WpC.skip ?_
          exact ⟨rfl, Gh.cut' [0, 2] 0 (by simp -implicitDefEqProofs [e1, e2, e3, s1, s2, s3, w1, w2, w3, hxl3, d14]) (by simp -implicitDefEqProofs [e1, e2, e3, s1, s2, s3, w1, w2, w3, hxl3, d14]) rfl (by simp) (by simp) (by simp)⟩
      · generalize hS : ByteArray.mk _ = S
        have hs0 : ((List.range 256).all fun x => x == 0 || (S.data.toList[x]?).map UInt8.toNat == some (x.log2 + 1)) = true := by rw [← hS]; decide +kernel
        have hs1 := List.all_eq_true.1 hs0 x3 (List.mem_range.2 hxl3)
        have hx30 : (x3 == 0) = false := by simp; omega
        rw [hx30, Bool.false_or, beq_iff_eq, Option.map_eq_some_iff] at hs1
        obtain ⟨b, hs2, hs3⟩ := hs1
        have hs2 : S.data[x3]? = some b := by rw [← Array.getElem?_toList]; exact hs2
        have hb : x3.log2 ≤ 7 := by have := (Nat.log2_lt (by omega)).2 (show x3 < 2 ^ 8 from hxl3); omega
        have w4 : IntKind.i64.wrap ((x3.log2 : Int) + 1) = (x3.log2 : Int) + 1 := wrapI (by omega) (by omega)
        have w5 : IntKind.i64.wrap ((n3 : Int) + ((x3.log2 : Int) + 1)) = (y.log2 : Int) + 1 := by rw [wrapI (by omega) (by omega)]; omega
        refine WpC.seq (WpC.ops tabOk (r := []) (by simp -implicitDefEqProofs [e1, e2, e3, s1, s2, s3, w1, w2, w3, hxl3, hs2, hs3, w4, w5] <;> rfl) rfl ?_)
        refine WpC.ret ?_
        try simp only [blockQ, seqQ]
        refine retD_i (by simp -implicitDefEqProofs [e1, e2, e3, s1, s2, s3, w1, w2, w3, hxl3, hs2, hs3, w4, w5] <;> rfl) (by simp -implicitDefEqProofs [e1, e2, e3, s1, s2, s3, w1, w2, w3, hxl3, hs2, hs3, w4, w5] <;> rfl) ?_
        simp -implicitDefEqProofs [e1, e2, e3, s1, s2, s3, w1, w2, w3, hxl3, hs2, hs3, w4, w5]
end Go.Proofs.Ytaobnhenjldjeaa.Pay
