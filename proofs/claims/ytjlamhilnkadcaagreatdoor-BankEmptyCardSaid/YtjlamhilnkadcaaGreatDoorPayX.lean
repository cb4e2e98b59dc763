/- Regions that draw their order: how they are walked. No statement of the seed is proved here. -/
import Derived.Test.YtjlamhilnkadcaaGreatDoorPayW
namespace Go.Proofs.YtjlamhilnkadcaaGreatDoor.Pay
open Go Go.RowKit
set_option linter.unusedSimpArgs false
set_option linter.unusedVariables false

/-- What the test asks of an event. -/
structure TrC where
  i : Nat
  mids : List Nat
  ids : List Nat
  nid : Nat
  rd : List Nat
  sh : List Nat
  st : Bool

def cD (ops : Array Oper) (t : TrC) : Option Nat := (ops[t.i]?).bind (·.dst)
def cL (ops : Array Oper) (t : TrC) : List Nat := match ops[t.i]? with
  | none => []
  | some o => looks ops o
def shpC (tr : List TrC) (i : Nat) : Bool := tr.all fun u => u.st || !u.mids.contains i
def touchC (ops : Array Oper) (tr : List TrC) (t u : TrC) : Bool :=
  (match cD ops u with | some d => (cL ops t).contains d || cD ops t == some d | none => false) || u.mids.any (fun i => t.rd.contains i || t.mids.contains i) || t.sh.any (fun i => !shpC tr i && u.mids.contains i) ||
    (t.mids.contains t.nid && u.ids.contains t.nid)
def pairC (ops : Array Oper) (tr : List TrC) (t u : TrC) : Bool :=
  u.i == t.i || !touchC ops tr t u || (if u.i < t.i then dep2 ops t.i u.i && !(t.mids.contains t.nid && (u.ids.contains t.nid || u.mids.contains t.nid)) else dep2 ops u.i t.i)
def chkC (ops : Array Oper) (N0 N1 : Nat) (tr : List TrC) : Bool :=
  tr.length == ops.size && (List.range ops.size).all (fun i => match ops[i]? with | none => true | some o => o.after.all fun e => !Region.binds .any e || decide (e.on < i)) &&
    tr.all fun t => (!t.mids.contains t.nid || decide (N0 ≤ t.nid ∧ t.nid < N1)) && tr.all fun u => pairC ops tr t u

def TrE.c (t : TrE) : TrC := ⟨t.i, t.mids, evIds t.e, t.nid, t.rd, t.sh, t.st⟩

def isStore : Op → Bool
  | .store _ _ _ => true
  | _ => false

/-- A walk in text order. -/
def DrO (P : Program) (T : Nat → Option TI) (ops : Array Oper) : List Oper → St → Nat → List TrC → (St → List TrC → Prop) → Prop
  | [], s, _, tr, K => K s tr
  | o :: l, s, nid, tr, K => ∃ e rd sh st nid', EvOk P T ops o s nid e rd sh ∧ (st = true → ∀ i : Nat, ((e.app o.dst s).S[i]?).map shp = (s.S[i]?).map shp) ∧
      DrO P T ops l (e.app o.dst s) nid' (⟨tr.length, e.mods.map (·.1), evIds e, nid, rd, sh, st⟩ :: tr) K

section
variable {P : Program} {T : Nat → Option TI} {w w' : World} {I I' : Nat → Prop} {L L' : List Lay} {s s' s1 s2 s0 : St} {a : Act} {all ops : Array Oper} {o : Oper} {rest : List Oper} {Q : Exit → St → Prop} {c : Code} {X Y : Nat → Bool} {K : St → List TrC → Prop} {tr : List TrC} {nid : Nat}

theorem tr_lk {t : TrE} {tr : List TrE} (htr : TrOk P T ops s0 tr) (h : t ∈ tr) : t.d = cD ops t.c ∧ t.lk = cL ops t.c := by
  induction tr with
  | nil => simp at h
  | cons x r ih =>
    rcases List.mem_cons.1 h with rfl | h
    · obtain ⟨_, _, o, ho, hd, hl, _⟩ := htr
      simp [cD, cL, TrE.c, ho, hd, hl]
    · exact ih htr.1 h

theorem chk_eq {tr : List TrE} {N0 N1 : Nat} (htr : TrOk P T ops s0 tr) : chkC ops N0 N1 (tr.map TrE.c) = chkB ops N0 N1 tr := by
  have hsh : ∀ i, shpC (tr.map TrE.c) i = shpB tr i := fun i => by
    unfold shpC shpB
    rw [List.all_map]; rfl
  have htc : ∀ t ∈ tr, ∀ u ∈ tr, touchC ops (tr.map TrE.c) t.c u.c = touchB tr t u := fun t ht u hu => by
    unfold touchC touchB
    rw [← (tr_lk htr ht).1, ← (tr_lk htr ht).2, ← (tr_lk htr hu).1]
    simp only [hsh]
    rfl
  have hpc : ∀ t ∈ tr, ∀ u ∈ tr, pairC ops (tr.map TrE.c) t.c u.c = pairB ops tr t u := fun t ht u hu => by
    unfold pairC pairB
    rw [htc t ht u hu]; rfl
  have hall : ∀ (f g : TrE → Bool), (∀ t ∈ tr, f t = g t) → tr.all f = tr.all g := by
    intro f g
    clear hsh htc hpc htr
    induction tr with
    | nil => intro _; rfl
    | cons x r ih => intro h; simp only [List.all_cons]; rw [h x (by simp), ih fun t ht => h t (by simp [ht])]
  unfold chkC chkB
  rw [List.length_map, List.all_map]
  congr 1
  refine hall _ _ fun t ht => ?_
  show (_ && (tr.map TrE.c).all _) = _
  rw [List.all_map]
  congr 1
  exact hall _ _ fun u hu => hpc t ht u hu

theorem dr_tr : ∀ {l : List Oper} {s : St} {nid : Nat} {trE : List TrE}, (∀ j, l[j]? = ops[trE.length + j]?) → TrOk P T ops s0 trE → stX (fun _ => true) s0 trE = s → DrO P T ops l s nid (trE.map TrE.c) K →
    ∃ tr2, TrOk P T ops s0 tr2 ∧ K (stX (fun _ => true) s0 tr2) (tr2.map TrE.c)
  | [], s, nid, trE, _, htr, hs, h => ⟨trE, htr, by rw [hs]; exact h⟩
  | o :: l, s, nid, trE, hl, htr, hs, h => by
    obtain ⟨e, rd, sh, st, nid', hev, hst, hrest⟩ := h
    have ho : ops[trE.length]? = some o := by simpa using (hl 0).symm
    refine dr_tr (trE := ⟨trE.length, o.dst, looks ops o, e, nid, rd, sh, st⟩ :: trE) (s := e.app o.dst s) (nid := nid') (l := l) (fun j => ?_) ⟨htr, rfl, o, ho, rfl, rfl, by rw [hs]; exact hev, by rw [hs]; exact hst⟩ ?_ ?_
    · have := hl (j + 1)
      simpa [Nat.add_assoc, Nat.add_comm 1 j] using this
    · simp only [stX, if_true]; rw [hs]
    · simpa [TrE.c, TrE.mids] using hrest

/-- A region that draws its order, walked in text order; m: how many objects are new. -/
theorem WpC.drawn (hT : TabOk P T) (hm : P.follows .mixedOrders = true) {id : Nat} (m : Nat) (hp : s.pin ≤ s.S.length)
    (h : DrO P T ops ops.toList ⟨s.env, s.S ++ List.replicate m .gone, s.nt, s.pin⟩ s.S.length [] fun s1 tr => chkC ops s.S.length (s.S.length + m) tr = true ∧ Q .normal s1) : WpC P (.region id ops true) s Q := fun w I L a hs => by
  obtain ⟨tr, htr, hck, hq⟩ := dr_tr (s0 := ⟨s.env, s.S ++ List.replicate m .gone, s.nt, s.pin⟩) (trE := []) (by simp) trivial rfl h
  rw [chk_eq htr] at hck
  obtain ⟨ids1, ids2⟩ := hs.ids
  have hgetS : ∀ (i : Nat) (ob : Ob), (s.S ++ List.replicate m Ob.gone)[i]? = some ob → s.S[i]? = some ob ∨ ob = .gone := by
    intro i ob hi
    by_cases hlt : i < s.S.length
    · rw [List.getElem?_append_left hlt] at hi; exact .inl hi
    · rw [List.getElem?_append_right (by omega), List.getElem?_replicate] at hi
      split at hi
      · cases hi; exact .inr rfl
      · cases hi
  have howns : ∀ (S : List Ob) (L : List Lay), S.length = L.length → owns (S ++ List.replicate m Ob.gone) (L ++ List.replicate m (Lay.z none)) = owns S L := by
    intro S
    induction S with
    | nil =>
      intro L hl
      have : L = [] := List.eq_nil_of_length_eq_zero (by simpa using hl.symm)
      subst this
      simp only [List.nil_append, owns]
      clear h hck hq htr hgetS
      induction m with
      | zero => rfl
      | succ m ih => simp only [List.replicate_succ, owns, own, List.nil_append]; exact ih
    | cons o S ih =>
      intro L hl
      cases L with
      | nil => simp at hl
      | cons l L => simp only [List.cons_append, owns]; rw [ih L (by simpa using hl)]
  have hw : SR { w with drawn := w.drawn + 1 } I L s a := hs.world (fun _ _ => rfl) (fun _ _ => rfl) (Nat.le_refl _)
  have hLext : ∀ (i : Nat) (l : Lay), L[i]? = some l → (L ++ List.replicate m (Lay.z none))[i]? = some l := fun i l hl => by
    rw [List.getElem?_append_left (List.getElem?_eq_some_iff.1 hl).1]; exact hl
  have hs0 : SR { w with drawn := w.drawn + 1 } I (L ++ List.replicate m (Lay.z none)) ⟨s.env, s.S ++ List.replicate m .gone, s.nt, s.pin⟩ a := by
    refine ⟨fun t x hx => VRel.mono (fun _ _ => rfl) (fun _ h => h) hLext _ _ (hw.env t x hx), hw.nt, by simp [hw.len], fun i ob l h1 h2 => ?_, ?_, ?_, hw.imm, hw.defers⟩
    · rcases hgetS i ob h1 with h1' | rfl
      · have hlt : i < L.length := by rw [hs.len]; exact (List.getElem?_eq_some_iff.1 h1').1
        rw [List.getElem?_append_left hlt] at h2
        exact ORel.mono (fun _ _ => rfl) (fun _ h => h) hLext (fun _ _ => rfl) (hw.obs i ob l h1' h2)
      · trivial
    · rw [howns _ _ hs.len.symm]; exact hw.nodup
    · rw [howns _ _ hs.len.symm]; exact hw.sep
  refine wp_region_any hm ?_
  refine wpAny_tr (N0 := s.S.length) (w0 := { w with drawn := w.drawn + 1 }) (I0 := I) (L0 := L ++ List.replicate m (Lay.z none)) hT htr (by simpa using hck) hp (by simp; omega) ids1
    (fun i ob hi j hj => ?_) (fun i h1 h2 => ?_) (fun a' w' I' L' hs' ht' => ?_) ops.size (Array.replicate ops.size false) a _ I (L ++ List.replicate m (Lay.z none)) (by simp) (fun i o ho hl => ?_) ?_ ?_ ?_
  · rcases hgetS i ob hi with hi' | rfl
    · exact ids2 i ob hi' j hj
    · simp [oids] at hj
  · simp at h2
    show (s.S ++ List.replicate m Ob.gone)[i]? = some Ob.gone
    rw [List.getElem?_append_right h1, List.getElem?_replicate, if_pos (by omega)]
  · refine ⟨_, I', L', hq, hs', ?_⟩
    have hev := ht'.evo
    simp only [howns _ _ hs.len.symm] at hev
    refine ⟨⟨hev.os, hev.tape, hev.output, hev.size, hev.keep, hev.imm, hev.immNew, hev.own⟩, ht'.pin, fun i hi => ?_⟩
    rw [ht'.lay i hi, List.getElem?_append_left (by rw [hs.len]; omega)]
  · simp [lst, Array.getD_eq_getD_getElem?, Array.getElem?_replicate] at hl
    split at hl <;> simp at hl
  · have : ∀ n, n ≤ ops.size → unl (Array.replicate ops.size false) n = n := by
      intro n
      induction n with
      | zero => intro _; rfl
      | succ n ih =>
        intro hn
        simp only [unl]
        rw [ih (by omega), if_neg]
        simp [lst, Array.getD_eq_getD_getElem?, show n < ops.size by omega]
    exact this ops.size (Nat.le_refl _)
  · have : ∀ (r : List TrE), (∀ u ∈ r, lst (Array.replicate ops.size false) u.i = false) := by
      intro r u _
      simp only [lst, Array.getD_eq_getD_getElem?, Array.getElem?_replicate]
      split <;> rfl
    have h0 : stX (lst (Array.replicate ops.size false)) ⟨s.env, s.S ++ List.replicate m .gone, s.nt, s.pin⟩ tr = ⟨s.env, s.S ++ List.replicate m .gone, s.nt, s.pin⟩ := by
      have := stX_skip (s0 := ⟨s.env, s.S ++ List.replicate m .gone, s.nt, s.pin⟩) (l := tr) (r := []) (this tr)
      simpa [stX] using this
    rw [h0]; exact hs0
  · have : ∀ (r : List TrE), (∀ u ∈ r, lst (Array.replicate ops.size false) u.i = false) := by
      intro r u _
      simp only [lst, Array.getD_eq_getD_getElem?, Array.getElem?_replicate]
      split <;> rfl
    have h0 : stX (lst (Array.replicate ops.size false)) ⟨s.env, s.S ++ List.replicate m .gone, s.nt, s.pin⟩ tr = ⟨s.env, s.S ++ List.replicate m .gone, s.nt, s.pin⟩ := by
      have := stX_skip (s0 := ⟨s.env, s.S ++ List.replicate m .gone, s.nt, s.pin⟩) (l := tr) (r := []) (this tr)
      simpa [stX] using this
    rw [h0]; exact Step.refl _ _ _ _

/-! ### The walk -/

theorem evStN_shp {t : TypeId} {p x : FV} {S' : List Ob} (h : evStN T s t p x = some S') (i : Nat) : (S'[i]?).map shp = (s.S[i]?).map shp := by
  have key : ∀ (id : Nat) (ob ob' : Ob), s.S[id]? = some ob → shp ob' = shp ob → ((s.S.set id ob')[i]?).map shp = (s.S[i]?).map shp := by
    intro id ob ob' h1 h2
    by_cases hi : id = i
    · subst hi
      rw [List.getElem?_set_self (List.getElem?_eq_some_iff.1 h1).1, h1]
      simp [h2]
    · rw [List.getElem?_set_ne hi]
  unfold evStN at h
  simp only [Option.bind_eq_some_iff] at h
  obtain ⟨ti, _, h⟩ := h
  split at h
  · split at h
    · split at h
      · rename_i tt cs hS
        split at h
        · cases h; exact key _ _ _ hS rfl
        · cases h
      · cases h
    · split at h
      · rename_i e k xs hS
        split at h
        · rename_i hkk
          subst hkk
          simp only [Option.bind_eq_some_iff] at h
          obtain ⟨y, _, ds, _, h⟩ := h
          split at h
          · split at h
            · cases h; exact key _ _ _ hS (by simp [shp])
            · cases h
          · split at h
            · split at h
              · split at h
                · cases h
                · cases h; exact key _ _ _ hS (by simp [shp])
              · cases h
            · cases h
        · cases h
      · cases h
    · cases h
  · cases h

theorem app_shp_nil {v : FV} {d : Option Nat} (i : Nat) : (((⟨v, []⟩ : Ev).app d s).S[i]?).map shp = (s.S[i]?).map shp := by simp [Ev.app, updS_nil]

theorem op_shp (h0 : isStore o.op = true) (h1 : evOp T o (msk s (opTmps o.op) (rdIds s o.op)) = some s1) (i : Nat) :
    (((mkEv o.dst s.S.length nid (wrIds s o.op) s1).app o.dst s).S[i]?).map shp = (s.S[i]?).map shp := by
  cases ho : o.op <;> rw [ho] at h0 <;> simp only [isStore, Bool.false_eq_true] at h0
  rename_i t p x
  have hx : ∀ y ∈ o.op.operands.toList, evX (msk s (opTmps o.op) (rdIds s o.op)) y = evX s y := fun y hy => msk_evX hy
  unfold evOp at h1
  rw [ho] at h1 hx
  simp only [Option.bind_eq_some_iff] at h1
  obtain ⟨vp, hp, vx, _, S', hS, h1⟩ := h1
  obtain ⟨e1, _, _, _⟩ := setS_out h1
  have e1' : s1.S = S' := e1
  have hpp : evX s p = some vp := by rw [← hx p (by simp [Op.operands])]; exact hp
  have hlen : s1.S.length = s.S.length := by rw [e1', (evStN_out hS).1]; simp [msk, mskS_len]
  unfold mkEv Ev.app
  rw [List.getElem?_eq_none (show s1.S.length ≤ s.S.length by omega)]
  simp only [List.nil_append]
  rw [updS_get, Nat.zero_add, getO_wrEv]
  by_cases hw : i ∈ wrIds s (Op.store t p x)
  · rw [if_pos hw]
    have hsh := evStN_shp hS i
    rw [← e1'] at hsh
    simp only [msk, mskS_get, Nat.zero_add] at hsh
    have hrd : i ∈ rdIds s (Op.store t p x) := by simpa [rdIds, wrIds] using hw
    by_cases hlt : i < s.S.length
    · rw [List.getElem?_eq_getElem (show i < s1.S.length by omega), List.getElem?_eq_getElem hlt] at hsh ⊢
      simp only [Option.map_some, hrd, if_true, Option.some.injEq, Option.getD_some] at hsh ⊢
      exact hsh
    · rw [List.getElem?_eq_none (show s.S.length ≤ i by omega)]; rfl
  · rw [if_neg hw]
    cases s.S[i]? <;> rfl

/-- One operation that calls no function: its event, what it reads, of what it reads the length, whether it leaves lengths alone. -/
def evDr1 (T : Nat → Option TI) (ops : Array Oper) (fz : Bool) (o : Oper) (s : St) (nid : Nat) : Option (Ev × List Nat × List Nat × Bool) :=
  (wantS ops s o).bind fun b => if b = true then
      (if isSh o.op = true then (evA T s o.op).bind fun v => (setS s o.dst v).map fun _ => (⟨v, []⟩, [], shIds s o.op, true)
       else if fz = true then (match o.op with
         | .buildSlice .. => (evOp T o (msk s (opTmps o.op) [])).bind fun s1 => match s1.S[s.S.length]?, o.dst with
           | some (.arr _ k xs), some d => (match get s1.env d with
             | some (.sl id n) => if id = s.S.length ∧ n = xs.length then some (⟨.d (.list k xs), []⟩, [], [], true) else none
             | _ => none)
           | _, _ => none
         | _ => none)
       else (evOp T o (msk s (opTmps o.op) (rdIds s o.op))).bind fun s1 => if newOk s.S.length nid o.dst (wrIds s o.op) s1 = true then some (mkEv o.dst s.S.length nid (wrIds s o.op) s1, rdIds s o.op, [], isStore o.op) else none)
    else (setS s o.dst (.tup [])).map fun _ => (⟨.tup [], []⟩, [], [], true)

theorem setS_lt {x : FV} (h : setS s o.dst x = some s1) : ∀ d, o.dst = some d → d < s.nt := fun d hd => ((setS_out h).2.2.2 d hd).2

theorem evDr1_ok {fz : Bool} {e : Ev} {rd sh : List Nat} {st : Bool} (h : evDr1 T ops fz o s nid = some (e, rd, sh, st)) :
    EvOk P T ops o s nid e rd sh ∧ (st = true → ∀ i : Nat, ((e.app o.dst s).S[i]?).map shp = (s.S[i]?).map shp) := by
  unfold evDr1 at h
  simp only [Option.bind_eq_some_iff] at h
  obtain ⟨b, hb, h⟩ := h
  split at h
  · rename_i hbt
    subst hbt
    split at h
    · rename_i hsh
      simp only [Option.bind_eq_some_iff, Option.map_eq_some_iff, Prod.mk.injEq] at h
      obtain ⟨v, hv, s1, hs1, rfl, rfl, rfl, rfl⟩ := h
      exact ⟨.sh hb hsh hv (setS_lt hs1), fun _ => app_shp_nil⟩
    · split at h
      · split at h
        · rename_i t len parts ho
          simp only [Option.bind_eq_some_iff] at h
          obtain ⟨s1, hs1, h⟩ := h
          split at h
          · rename_i et k xs d hS hd
            split at h
            · rename_i id n hg
              split at h
              · rename_i hc
                obtain ⟨rfl, rfl⟩ := hc
                simp only [Option.some.injEq, Prod.mk.injEq] at h
                obtain ⟨rfl, rfl, rfl, rfl⟩ := h
                exact ⟨.lit hb hs1 (by simp [wrIds, ho]) hS hd hg, fun _ => app_shp_nil⟩
              · cases h
            · cases h
          · cases h
        · cases h
      · simp only [Option.bind_eq_some_iff] at h
        obtain ⟨s1, hs1, h⟩ := h
        split at h
        · rename_i hok
          simp only [Option.some.injEq, Prod.mk.injEq] at h
          obtain ⟨rfl, rfl, rfl, rfl⟩ := h
          exact ⟨.op hb hs1 hok, fun hst => op_shp hst hs1⟩
        · cases h
  · rename_i hbf
    have hbf' : b = false := by simpa using hbf
    subst hbf'
    simp only [Option.map_eq_some_iff, Prod.mk.injEq] at h
    obtain ⟨s1, hs1, rfl, rfl, rfl, rfl⟩ := h
    exact ⟨.skip hb (setS_lt hs1), fun _ => app_shp_nil⟩

/-- n operations; fz: the places of literals that nobody writes. -/
def evDr (T : Nat → Option TI) (ops : Array Oper) (fz : List Nat) : Nat → List Oper → St → Nat → List TrC → Option (List Oper × St × Nat × List TrC)
  | 0, l, s, nid, tr => some (l, s, nid, tr)
  | _ + 1, [], s, nid, tr => some ([], s, nid, tr)
  | n + 1, o :: l, s, nid, tr => (evDr1 T ops (decide (tr.length ∈ fz)) o s nid).bind fun p =>
      evDr T ops fz n l (p.1.app o.dst s) (if nid ∈ p.1.mods.map (·.1) then nid + 1 else nid) (⟨tr.length, p.1.mods.map (·.1), evIds p.1, nid, p.2.1, p.2.2.1, p.2.2.2⟩ :: tr)

theorem DrO.run {fz : List Nat} : ∀ (n : Nat) {l l' : List Oper} {s s' : St} {nid nid' : Nat} {tr tr' : List TrC}, evDr T ops fz n l s nid tr = some (l', s', nid', tr') → DrO P T ops l' s' nid' tr' K → DrO P T ops l s nid tr K
  | 0, l, l', s, s', nid, nid', tr, tr', h, k => by simp only [evDr, Option.some.injEq, Prod.mk.injEq] at h; obtain ⟨rfl, rfl, rfl, rfl⟩ := h; exact k
  | n + 1, [], l', s, s', nid, nid', tr, tr', h, k => by simp only [evDr, Option.some.injEq, Prod.mk.injEq] at h; obtain ⟨rfl, rfl, rfl, rfl⟩ := h; exact k
  | n + 1, o :: l, l', s, s', nid, nid', tr, tr', h, k => by
    simp only [evDr, Option.bind_eq_some_iff] at h
    obtain ⟨⟨e, rd, sh, st⟩, h1, h2⟩ := h
    obtain ⟨q1, q2⟩ := evDr1_ok (P := P) h1
    exact ⟨e, rd, sh, st, _, q1, q2, DrO.run n h2 k⟩

theorem DrO.nil (h : K s tr) : DrO P T ops [] s nid tr K := h

/-- Structs are compared. -/
theorem DrO.eqS {t ty : TypeId} {x y : Operand} {xs ys : List D} {b : Bool} {l : List Oper} (neg : Bool) (h : wantS ops s o = some true) (ho : o.op = .binOp (eqOp neg) t x y ty) (hx : evX s x = some (.d (.agg xs))) (hy : evX s y = some (.d (.agg ys)))
    (hE : EqT P t xs ys b) (hset : setS s o.dst (.d (.bool (b ^^ neg))) = some s1) (k : DrO P T ops l s1 nid (⟨tr.length, [], [], nid, [], [], true⟩ :: tr) K) : DrO P T ops (o :: l) s nid tr K := by
  refine ⟨_, _, _, true, nid, .eqs h ho hx hy hE (setS_lt hset), fun _ => app_shp_nil, ?_⟩
  rw [setS_eq (setS_lt hset)] at hset
  cases hset
  simpa [Ev.app, updS_nil, evIds, fids] using k

/-- A call that is lent rows. -/
theorem DrO.lend {fx : Operand} {args : Array Operand} {ts : Array TypeId} {g : FuncId} {caps xs cargs : List FV} {v : FV} {l : List Oper} (h : wantS ops s o = some true) (ho : o.op = .call { callee := .value fx, args, argTypes := ts })
    (hf : evX s fx = some (.fn g caps)) (hx : evXs s args.toList = some xs) (hv : viewFs true s.S (xs ++ caps) = some cargs) (hc : Callable P g) (hcall : WpF P g cargs [] fun r _ => r = v) (hfl : flatR v = true)
    (hset : setS s o.dst v = some s1) (k : DrO P T ops l s1 nid (⟨tr.length, [], fids v, nid, vidss s.S (xs ++ caps), [], true⟩ :: tr) K) : DrO P T ops (o :: l) s nid tr K := by
  refine ⟨⟨v, []⟩, _, _, true, nid, .lend h ho hf hx hv hc hcall hfl (setS_lt hset), fun _ => app_shp_nil, ?_⟩
  rw [setS_eq (setS_lt hset)] at hset
  cases hset
  simpa [Ev.app, updS_nil, evIds] using k

/-- A call that is handed data, and hands back data. -/
theorem DrO.data {fx : Operand} {args : Array Operand} {ts : Array TypeId} {g : FuncId} {caps xs cargs : List FV} {v : FV} {l : List Oper} (h : wantS ops s o = some true) (ho : o.op = .call { callee := .value fx, args, argTypes := ts })
    (hf : evX s fx = some (.fn g caps)) (hx : evXs s args.toList = some xs) (hv : viewFs false s.S (xs ++ caps) = some cargs) (hc : Callable P g) (hcall : WpF P g cargs [] fun r S1 => r = v ∧ S1 = []) (hid : fids v = [])
    (hset : setS s o.dst v = some s1) (k : DrO P T ops l s1 nid (⟨tr.length, [], [], nid, vidss s.S (xs ++ caps), [], true⟩ :: tr) K) : DrO P T ops (o :: l) s nid tr K := by
  have hren : ∀ σ : Nat → Nat, ren σ v = v := fun σ => ren_id (by simp [hid])
  have hev := EvOk.call (P := P) (T := T) (all := ops) (o := o) (s := s) (nid := nid) (S0 := []) (r0 := v) [] h ho hf hx hc (by simp) (argsOk_view hv) ⟨rfl, fun j i c h => by simp at h⟩ hcall (by simp [callOkB, hren, hid, renOs]) (setS_lt hset)
  rw [hren, hren] at hev
  refine ⟨_, _, _, true, nid, hev, fun _ => by simpa [callS, renOs] using app_shp_nil, ?_⟩
  rw [setS_eq (setS_lt hset)] at hset
  cases hset
  simpa [Ev.app, updS_nil, evIds, callS, renOs, hid] using k

/-- A call that hands over objects, or hands back a new one. -/
theorem DrO.call {fx : Operand} {args : Array Operand} {ts : Array TypeId} {g : FuncId} {caps xs cargs : List FV} {cS : List Ob} (perm : List Nat) {r0 v : FV} {S0 S1 : List Ob} {mods : List (Nat × Ob)} {ids : List Nat} {l : List Oper} (h : wantS ops s o = some true) (ho : o.op = .call { callee := .value fx, args, argTypes := ts })
    (hf : evX s fx = some (.fn g caps)) (hx : evXs s args.toList = some xs) (hc : Callable P g) (hn : perm.Nodup) (ha : ArgsOk s.S perm (xs ++ caps) cargs) (hpass : PassOk s.S perm cS)
    (hcall : WpF P g cargs cS fun r S1 => r = r0 ∧ S1 = S0) (hb : callOkB s.S.length nid perm r0 S0 = true) (hv : ren (mvN s.S.length nid) (ren (σ1 s.S.length perm) r0) = v) (hm : callS s.S.length nid perm S0 = mods) (hS : updS mods 0 s.S = S1)
    (hset : setS { s with S := S1 } o.dst v = some s1) (hids : evIds ⟨v, mods⟩ = ids)
    (k : DrO P T ops l s1 (if nid ∈ mods.map (·.1) then nid + 1 else nid) (⟨tr.length, mods.map (·.1), ids, nid, vidss s.S (xs ++ caps) ++ perm, [], false⟩ :: tr) K) : DrO P T ops (o :: l) s nid tr K := by
  subst hv; subst hm; subst hS; subst hids
  have hd : ∀ d, o.dst = some d → d < s.nt := fun d hd => ((setS_out hset).2.2.2 d hd).2
  refine ⟨_, _, _, false, (if nid ∈ (callS s.S.length nid perm S0).map (·.1) then nid + 1 else nid), .call perm h ho hf hx hc hn ha hpass hcall hb hd, nofun, ?_⟩
  rw [setS_eq (s := { s with S := updS (callS s.S.length nid perm S0) 0 s.S }) hd] at hset
  cases hset
  exact k
end
end Go.Proofs.YtjlamhilnkadcaaGreatDoor.Pay
