/- Regions that draw their order: one walk in text order serves every order. No statement of the seed is proved here. -/
import Derived.Test.YtjlamhilnkadcaaGreatDoorPayV
namespace Go.Proofs.YtjlamhilnkadcaaGreatDoor.Pay
open Go Go.RowKit
set_option linter.unusedSimpArgs false
set_option linter.unusedVariables false

/-- An event with its place: d: its slot, lk: what slots it looks at, nid: the number kept for what is new, rd, sh: objects that it reads, st: it turns no object's length. -/
structure TrE where
  i : Nat
  d : Option Nat
  lk : List Nat
  e : Ev
  nid : Nat
  rd : List Nat
  sh : List Nat
  st : Bool

def TrE.mids (t : TrE) : List Nat := t.e.mods.map (·.1)
def evIds (e : Ev) : List Nat := fids e.v ++ e.mods.flatMap fun p => oids p.2

def stX (X : Nat → Bool) (s0 : St) : List TrE → St
  | [] => s0
  | t :: r => if X t.i = true then t.e.app t.d (stX X s0 r) else stX X s0 r

def TrOk (P : Program) (T : Nat → Option TI) (ops : Array Oper) (s0 : St) : List TrE → Prop
  | [] => True
  | t :: r => TrOk P T ops s0 r ∧ t.i = r.length ∧ ∃ o, ops[t.i]? = some o ∧ t.d = o.dst ∧ t.lk = looks ops o ∧ EvOk P T ops o (stX (fun _ => true) s0 r) t.nid t.e t.rd t.sh ∧
    (t.st = true → ∀ i : Nat, (((t.e.app t.d (stX (fun _ => true) s0 r)).S)[i]?).map shp = (((stX (fun _ => true) s0 r).S)[i]?).map shp)

/-- Operation i waits for operation j. -/
def dep1 (ops : Array Oper) (i j : Nat) : Bool := match ops[i]? with
  | none => false
  | some o => o.after.any fun e => Region.binds .any e && e.on == j
def dep2 (ops : Array Oper) (i j : Nat) : Bool := match ops[i]? with
  | none => false
  | some o => o.after.any fun e => Region.binds .any e && (e.on == j || dep1 ops e.on j)

def shpB (tr : List TrE) (i : Nat) : Bool := tr.all fun u => u.st || !u.mids.contains i
def touchB (tr : List TrE) (t u : TrE) : Bool :=
  (match u.d with | some d => t.lk.contains d || t.d == some d | none => false) || u.mids.any (fun i => t.rd.contains i || t.mids.contains i) || t.sh.any (fun i => !shpB tr i && u.mids.contains i) ||
    (t.mids.contains t.nid && (evIds u.e).contains t.nid)
def pairB (ops : Array Oper) (tr : List TrE) (t u : TrE) : Bool :=
  u.i == t.i || !touchB tr t u || (if u.i < t.i then dep2 ops t.i u.i && !(t.mids.contains t.nid && ((evIds u.e).contains t.nid || u.mids.contains t.nid)) else dep2 ops u.i t.i)
def chkB (ops : Array Oper) (N0 N1 : Nat) (tr : List TrE) : Bool :=
  tr.length == ops.size && (List.range ops.size).all (fun i => match ops[i]? with | none => true | some o => o.after.all fun e => !Region.binds .any e || decide (e.on < i)) &&
    tr.all fun t => (!t.mids.contains t.nid || decide (N0 ≤ t.nid ∧ t.nid < N1)) && tr.all fun u => pairB ops tr t u

section
variable {P : Program} {T : Nat → Option TI} {w w' : World} {I I' : Nat → Prop} {L L' : List Lay} {s s' s1 s2 s0 : St} {a : Act} {all ops : Array Oper} {o : Oper} {rest : List Oper} {Q : Exit → St → Prop} {c : Code} {X Y : Nat → Bool}

theorem getO_none {m : List (Nat × Ob)} {i : Nat} (h : i ∉ m.map (·.1)) : getO m i = none := by
  induction m with
  | nil => rfl
  | cons p r ih =>
    obtain ⟨j, o⟩ := p
    simp only [List.map_cons, List.mem_cons, not_or] at h
    simp only [getO]
    rw [if_neg (fun e => h.1 e.symm)]
    exact ih h.2
theorem getO_some {m : List (Nat × Ob)} {i : Nat} (h : i ∈ m.map (·.1)) : ∃ ob, getO m i = some ob := by
  induction m with
  | nil => simp at h
  | cons p r ih =>
    obtain ⟨j, o⟩ := p
    simp only [getO]
    by_cases hj : j = i
    · rw [if_pos hj]; exact ⟨_, rfl⟩
    · rw [if_neg hj]
      simp only [List.map_cons, List.mem_cons] at h
      exact ih (h.resolve_left fun e => hj e.symm)

theorem app_len {e : Ev} {d : Option Nat} : (e.app d s).S.length = s.S.length := by simp [Ev.app, updS_len]
theorem stX_len : ∀ {tr : List TrE}, (stX X s0 tr).S.length = s0.S.length ∧ (stX X s0 tr).nt = s0.nt ∧ (stX X s0 tr).pin = s0.pin
  | [] => ⟨rfl, rfl, rfl⟩
  | t :: r => by
    have ih := stX_len (tr := r)
    unfold stX
    split
    · exact ⟨app_len.trans ih.1, ih.2.1, ih.2.2⟩
    · exact ih

theorem app_get {e : Ev} {d : Option Nat} {t : Nat} (h : d ≠ some t) : get (e.app d s).env t = get s.env t := by
  unfold Ev.app putE
  cases d with
  | none => rfl
  | some d => simp only [get]; rw [if_neg (fun h' => h (by rw [h']))]
theorem app_S {e : Ev} {d : Option Nat} {i : Nat} (h : i ∉ e.mods.map (·.1)) : ((e.app d s).S)[i]? = s.S[i]? := by
  unfold Ev.app
  simp only
  rw [updS_get, Nat.zero_add, getO_none h]
  cases s.S[i]? <;> rfl

theorem stX_env {t : Nat} : ∀ {tr : List TrE}, (∀ u ∈ tr, u.d = some t → X u.i = Y u.i) → get (stX X s0 tr).env t = get (stX Y s0 tr).env t
  | [], _ => rfl
  | u :: r, h => by
    have ih := stX_env (tr := r) fun u' hu' => h u' (List.mem_cons_of_mem _ hu')
    unfold stX
    by_cases hd : u.d = some t
    · rw [← h u (List.mem_cons_self) hd]
      split
      · unfold Ev.app putE
        rw [hd]; simp [get]
      · exact ih
    · have h1 : get (if X u.i = true then u.e.app u.d (stX X s0 r) else stX X s0 r).env t = get (stX X s0 r).env t := by split; exact app_get hd; rfl
      have h2 : get (if Y u.i = true then u.e.app u.d (stX Y s0 r) else stX Y s0 r).env t = get (stX Y s0 r).env t := by split; exact app_get hd; rfl
      rw [h1, h2, ih]

theorem stX_S {i : Nat} : ∀ {tr : List TrE}, (∀ u ∈ tr, i ∈ u.mids → X u.i = Y u.i) → ((stX X s0 tr).S)[i]? = ((stX Y s0 tr).S)[i]?
  | [], _ => rfl
  | u :: r, h => by
    have ih := stX_S (tr := r) fun u' hu' => h u' (List.mem_cons_of_mem _ hu')
    unfold stX
    by_cases hd : i ∈ u.mids
    · rw [← h u (List.mem_cons_self) hd]
      split
      · unfold Ev.app
        simp only
        rw [updS_get, updS_get, ih]
      · exact ih
    · have h1 : ((if X u.i = true then u.e.app u.d (stX X s0 r) else stX X s0 r).S)[i]? = ((stX X s0 r).S)[i]? := by split; exact app_S hd; rfl
      have h2 : ((if Y u.i = true then u.e.app u.d (stX Y s0 r) else stX Y s0 r).S)[i]? = ((stX Y s0 r).S)[i]? := by split; exact app_S hd; rfl
      rw [h1, h2, ih]

theorem stX_shp {i : Nat} : ∀ {tr : List TrE}, TrOk P T ops s0 tr → (∀ u ∈ tr, u.st = true ∨ i ∉ u.mids) → ∀ (X : Nat → Bool), (((stX X s0 tr).S)[i]?).map shp = (s0.S[i]?).map shp
  | [], _, _, X => rfl
  | u :: r, htr, h, X => by
    have ih := stX_shp (tr := r) htr.1 (fun u' hu' => h u' (List.mem_cons_of_mem _ hu'))
    obtain ⟨_, _, o, _, _, _, _, hst⟩ := htr
    unfold stX
    split
    · by_cases hm : i ∈ u.mids
      · have h1 := hst ((h u List.mem_cons_self).resolve_right fun h' => h' hm) i
        rw [ih] at h1
        obtain ⟨ob, hob⟩ := getO_some hm
        unfold Ev.app at h1 ⊢
        simp only at h1 ⊢
        rw [updS_get, Nat.zero_add, hob] at h1 ⊢
        rw [← h1]
        have e1 := (stX_len (X := X) (s0 := s0) (tr := r)).1
        have e2 := (stX_len (X := fun _ => true) (s0 := s0) (tr := r)).1
        by_cases hi : i < s0.S.length
        · rw [List.getElem?_eq_getElem (by omega), List.getElem?_eq_getElem (by omega)]; rfl
        · rw [List.getElem?_eq_none (by omega), List.getElem?_eq_none (by omega)]
      · rw [app_S hm]; exact ih X
    · exact ih X

theorem tr_split : ∀ {tr : List TrE} {i : Nat}, TrOk P T ops s0 tr → i < tr.length → ∃ l t r, tr = l ++ t :: r ∧ t.i = i ∧ r.length = i ∧ TrOk P T ops s0 (t :: r) ∧ (∀ u ∈ l, i < u.i) ∧ ∀ u ∈ r, u.i < i
  | [], i, _, h => by simp at h
  | t :: r, i, htr, h => by
    have hlt : ∀ (r : List TrE), TrOk P T ops s0 r → ∀ u ∈ r, u.i < r.length := by
      intro r
      induction r with
      | nil => intro _ u hu; simp at hu
      | cons x r ih =>
        intro h u hu
        rcases List.mem_cons.1 hu with rfl | hu
        · simp [h.2.1]
        · have := ih h.1 u hu; simp; omega
    by_cases hi : i = r.length
    · subst hi
      exact ⟨[], t, r, rfl, htr.2.1, rfl, htr, by simp, hlt r htr.1⟩
    · obtain ⟨l, t', r', h1, h2, h3, h4, h5, h6⟩ := tr_split (i := i) htr.1 (by simp at h; omega)
      refine ⟨t :: l, t', r', by rw [h1]; rfl, h2, h3, h4, fun u hu => ?_, h6⟩
      rcases List.mem_cons.1 hu with rfl | hu
      · have := htr.2.1; simp at h; omega
      · exact h5 u hu

theorem stX_skip {l r : List TrE} (h : ∀ u ∈ l, Y u.i = false) : stX Y s0 (l ++ r) = stX Y s0 r := by
  induction l with
  | nil => rfl
  | cons u l ih =>
    simp only [List.cons_append, stX, h u List.mem_cons_self, Bool.false_eq_true, if_false]
    exact ih fun u' hu' => h u' (List.mem_cons_of_mem _ hu')
theorem stX_all {r : List TrE} (h : ∀ u ∈ r, Y u.i = true) : stX Y s0 r = stX (fun _ => true) s0 r := by
  induction r with
  | nil => rfl
  | cons u l ih =>
    simp only [stX, h u List.mem_cons_self, if_true]
    rw [ih fun u' hu' => h u' (List.mem_cons_of_mem _ hu')]

/-- Another way to write a state. -/
theorem SR.write (hs : SR w I L s a) (he : ∀ t, get s'.env t = get s.env t) (hS : s'.S = s.S) (hn : s'.nt = s.nt) : SR w I L s' a :=
  ⟨fun t x hx => hs.env t x (by rw [← he]; exact hx), by rw [hn]; exact hs.nt, by rw [hS]; exact hs.len, by rw [hS]; exact hs.obs, by rw [hS]; exact hs.nodup, by rw [hS]; exact hs.sep, hs.imm, hs.defers⟩

theorem dep1_spec {i j : Nat} (h : dep1 ops i j = true) : ∃ o, ops[i]? = some o ∧ ∃ e ∈ o.after, Region.binds .any e = true ∧ e.on = j := by
  unfold dep1 at h
  split at h
  · cases h
  · rename_i o ho
    simp only [Array.any_eq_true', Bool.and_eq_true, beq_iff_eq] at h
    obtain ⟨e, he, h1, h2⟩ := h
    exact ⟨o, ho, e, he, h1, h2⟩
theorem dep2_spec {i j : Nat} (h : dep2 ops i j = true) : ∃ o, ops[i]? = some o ∧ ∃ e ∈ o.after, Region.binds .any e = true ∧ (e.on = j ∨ dep1 ops e.on j = true) := by
  unfold dep2 at h
  split at h
  · cases h
  · rename_i o ho
    simp only [Array.any_eq_true', Bool.and_eq_true, beq_iff_eq, Bool.or_eq_true] at h
    obtain ⟨e, he, h1, h2⟩ := h
    exact ⟨o, ho, e, he, h1, h2⟩

def ClosedL (ops : Array Oper) (X : Nat → Bool) : Prop := ∀ i o, ops[i]? = some o → X i = true → ∀ e ∈ o.after, Region.binds .any e = true → X e.on = true
theorem ClosedL.dep (hc : ClosedL ops X) {i j : Nat} (h : dep2 ops i j = true) (hi : ∀ o, ops[i]? = some o → ∀ e ∈ o.after, Region.binds .any e = true → X e.on = true) : X j = true := by
  obtain ⟨o, ho, e, he, hb, h⟩ := dep2_spec h
  have h1 := hi o ho e he hb
  rcases h with h | h
  · rw [← h]; exact h1
  · obtain ⟨o', ho', e', he', hb', rfl⟩ := dep1_spec h
    exact hc _ o' ho' h1 e' he' hb'

def lst (listed : Array Bool) (i : Nat) : Bool := listed.getD i false
def unl (listed : Array Bool) : Nat → Nat
  | 0 => 0
  | n + 1 => unl listed n + if lst listed n = true then 0 else 1
theorem unl_set {listed : Array Bool} {i : Nat} (hi : i < listed.size) (hf : lst listed i = false) : ∀ n, i < n → unl (listed.setIfInBounds i true) n + 1 = unl listed n
  | 0, h => by omega
  | n + 1, h => by
    have hs : ∀ j, lst (listed.setIfInBounds i true) j = if i = j then true else lst listed j := by
      intro j
      unfold lst
      simp only [Array.getD_eq_getD_getElem?, Array.getElem?_setIfInBounds]
      split
      · simp [hi]
      · rfl
    have hlow : ∀ m, m ≤ i → unl (listed.setIfInBounds i true) m = unl listed m := by
      intro m
      induction m with
      | zero => intro _; rfl
      | succ m ih => intro hm; simp only [unl]; rw [ih (by omega), hs, if_neg (show ¬ i = m by omega)]
    simp only [unl]
    rw [hs]
    by_cases hn : i = n
    · subst hn; rw [hlow i (Nat.le_refl _)]; simp [hf]
    · rw [if_neg hn]
      have := unl_set hi hf n (by omega)
      omega
theorem unl_zero {listed : Array Bool} : ∀ n, unl listed n = 0 → ∀ i, i < n → lst listed i = true
  | 0, _, i, h => by omega
  | n + 1, h, i, hi => by
    simp only [unl] at h
    by_cases hn : i = n
    · subst hn
      by_cases hb : lst listed i = true
      · exact hb
      · rw [if_neg hb] at h; omega
    · exact unl_zero n (by omega) i (by omega)

/-- The state, whatever has come up, is the one that the events tell. -/
theorem wpAny_tr (hT : TabOk P T) {tr : List TrE} {N0 : Nat} {w0 : World} {I0 : Nat → Prop} {L0 : List Lay} (htr : TrOk P T ops s0 tr) (hck : chkB ops N0 s0.S.length tr = true) (hpin : s0.pin ≤ N0) (hpl : s0.pin ≤ s0.S.length)
    (hids : ∀ t x, get s0.env t = some x → ∀ j ∈ fids x, j < N0) (hobs : ∀ (i : Nat) (ob : Ob), s0.S[i]? = some ob → ∀ j ∈ oids ob, j < N0) (hgone : ∀ i, N0 ≤ i → i < s0.S.length → s0.S[i]? = some .gone)
    {Q' : Exit → Act → World → Prop} (hK : ∀ a w I L, SR w I L (stX (fun _ => true) s0 tr) a → Step w0 I0 L0 s0 w I L (stX (fun _ => true) s0 tr) → Q' .normal a w) :
    ∀ (fuel : Nat) (listed : Array Bool) (a : Act) (w : World) (I : Nat → Prop) (L : List Lay), listed.size = ops.size → ClosedL ops (lst listed) → unl listed ops.size = fuel →
      SR w I L (stX (lst listed) s0 tr) a → Step w0 I0 L0 s0 w I L (stX (lst listed) s0 tr) → wpAny P .any ops Q' fuel listed a w := by
  have hck' := hck
  unfold chkB at hck'
  simp only [Bool.and_eq_true, beq_iff_eq, List.all_eq_true, List.mem_range] at hck'
  obtain ⟨⟨hlen, hfwd⟩, hpair⟩ := hck'
  have hidx : ∀ u ∈ tr, u.i < ops.size := by
    intro u hu
    obtain ⟨l1, r1, hs⟩ := List.append_of_mem hu
    have : ∀ (r : List TrE), TrOk P T ops s0 r → ∀ u ∈ r, u.i < r.length := by
      intro r
      induction r with
      | nil => intro _ u hu; simp at hu
      | cons x r ih =>
        intro h u hu
        rcases List.mem_cons.1 hu with rfl | hu
        · simp [h.2.1]
        · have := ih h.1 u hu; simp; omega
    have := this tr htr u hu
    omega
  have hdone : ∀ (listed : Array Bool), (∀ i, i < ops.size → lst listed i = true) → stX (lst listed) s0 tr = stX (fun _ => true) s0 tr := fun listed h => stX_all fun u hu => h u.i (hidx u hu)
  intro fuel
  induction fuel with
  | zero =>
    intro listed a w I L hsz hcl hun hs ht
    have hall := unl_zero ops.size hun
    rw [hdone listed hall] at hs ht
    refine ⟨?_, hK a w I L hs ht⟩
    rw [List.eq_nil_iff_forall_not_mem]
    intro j hj
    obtain ⟨h1, o, ho, _⟩ := mem_ready.1 hj
    have hlt : j < ops.size := (Array.getElem?_eq_some_iff.1 ho).1
    have h2 := hall j hlt
    unfold lst at h2
    simp only [Array.getD_eq_getD_getElem?] at h1 h2
    rw [Array.getElem?_eq_getElem (by omega)] at h1 h2
    simp at h1 h2
    rw [h1] at h2; cases h2
  | succ fuel ih =>
    intro listed a w I L hsz hcl hun hs ht
    refine ⟨fun hnone => ?_, fun i hi => ?_⟩
    · -- the least that has not come up may come up
      exfalso
      have hex : ∃ i, i < ops.size ∧ lst listed i = false := by
        apply Classical.byContradiction
        intro hno
        have : ∀ n, n ≤ ops.size → unl listed n = 0 := by
          intro n
          induction n with
          | zero => intro _; rfl
          | succ n ih' =>
            intro hn
            simp only [unl]
            rw [ih' (by omega)]
            by_cases hb : lst listed n = true
            · simp [hb]
            · exact absurd ⟨n, by omega, by simpa using hb⟩ hno
        rw [this ops.size (Nat.le_refl _)] at hun
        omega
      obtain ⟨m, hm⟩ := hex
      have hleast : ∀ m, m < ops.size ∧ lst listed m = false → ∃ k, (k < ops.size ∧ lst listed k = false) ∧ ∀ j, j < k → lst listed j = true := by
        intro m
        induction m using Nat.strongRecOn with
        | _ m ihm =>
          intro hm
          by_cases h : ∃ j, j < m ∧ lst listed j = false
          · obtain ⟨j, h1, h2⟩ := h
            exact ihm j h1 ⟨by omega, h2⟩
          · refine ⟨m, hm, fun j hj => ?_⟩
            cases hb : lst listed j with
            | true => rfl
            | false => exact absurd ⟨j, hj, hb⟩ h
      obtain ⟨k, ⟨hk1, hk2⟩, hk3⟩ := hleast m hm
      have hk : k ∈ Region.ready .any ops listed := by
        refine mem_ready.2 ⟨?_, ops[k], Array.getElem?_eq_getElem hk1, fun e he hb => ?_⟩
        · unfold lst at hk2
          simp only [Array.getD_eq_getD_getElem?] at hk2 ⊢
          rw [Array.getElem?_eq_getElem (by omega)] at hk2 ⊢
          simpa using hk2
        · have := hfwd k hk1
          rw [Array.getElem?_eq_getElem hk1] at this
          simp only [Array.all_eq_true_iff_forall_mem, Bool.or_eq_true, Bool.not_eq_true', decide_eq_true_eq] at this
          have h1 := (this e he).resolve_left (by simp [hb])
          have := hk3 e.on h1
          exact this
      rw [hnone] at hk
      cases hk
    · obtain ⟨hi1, o, ho, hi2⟩ := mem_ready.1 hi
      have hlt : i < ops.size := (Array.getElem?_eq_some_iff.1 ho).1
      have hif : lst listed i = false := by
        unfold lst
        simp only [Array.getD_eq_getD_getElem?] at hi1 ⊢
        rw [Array.getElem?_eq_getElem (by omega)] at hi1 ⊢
        simpa using hi1
      have hwait : ∀ o', ops[i]? = some o' → ∀ e ∈ o'.after, Region.binds .any e = true → lst listed e.on = true := fun o' ho' e he hb => by
        rw [ho] at ho'; cases ho'; exact hi2 e he hb
      obtain ⟨l, t, r, htrs, hti, hrl, htok, hl, hr⟩ := tr_split htr (i := i) (by omega)
      have hmt : t ∈ tr := by rw [htrs]; simp
      obtain ⟨_, _, o', ho', htd, htl, hev, hst⟩ := htok
      rw [hti, ho] at ho'
      cases ho'
      -- the state in text order
      have htext : stX (fun j => decide (j < i)) s0 tr = stX (fun _ => true) s0 r := by
        rw [htrs, show l ++ t :: r = (l ++ [t]) ++ r by simp, stX_skip fun u hu => ?_]
        · exact stX_all fun u hu => by simpa using hr u hu
        · rcases List.mem_append.1 hu with hu | hu
          · have := hl u hu; simp; omega
          · simp at hu; subst hu; simp [hti]
      have hcmp : ∀ u ∈ tr, u.i ≠ i → touchB tr t u = true → lst listed u.i = decide (u.i < i) := by
        intro u hu hne htc
        have hp := (hpair t hmt).2 u hu
        unfold pairB at hp
        simp only [htc, hti, Bool.not_true, Bool.or_false, Bool.or_eq_true, beq_iff_eq, hne, false_or] at hp
        by_cases hlt' : u.i < i
        · rw [if_pos hlt'] at hp
          simp only [Bool.and_eq_true] at hp
          rw [hcl.dep hp.1 hwait]; simp [hlt']
        · rw [if_neg hlt'] at hp
          cases hb : lst listed u.i with
          | false => simp [hlt']
          | true =>
            have := hcl.dep hp fun o'' ho'' e he hb' => hcl u.i o'' ho'' hb e he hb'
            rw [hif] at this; cases this
      have hself : ∀ u ∈ tr, u.i = i → u = t := by
        intro u hu hui
        rw [htrs] at hu
        rcases List.mem_append.1 hu with hu | hu
        · have := hl u hu; omega
        · rcases List.mem_cons.1 hu with hu | hu
          · exact hu
          · have := hr u hu; omega
      have hagE : ∀ t' : Nat, (∀ u ∈ tr, u.d = some t' → u.i ≠ i → touchB tr t u = true) → get (stX (fun _ => true) s0 r).env t' = get (stX (lst listed) s0 tr).env t' := by
        intro t' h
        rw [← htext]
        refine stX_env fun u hu hd => ?_
        by_cases hui : u.i = i
        · rw [hui, hif]; simp
        · rw [hcmp u hu hui (h u hu hd hui)]
      have hagS : ∀ k : Nat, (∀ u ∈ tr, k ∈ u.mids → u.i ≠ i → touchB tr t u = true) → ((stX (fun _ => true) s0 r).S)[k]? = ((stX (lst listed) s0 tr).S)[k]? := by
        intro k h
        rw [← htext]
        refine stX_S fun u hu hd => ?_
        by_cases hui : u.i = i
        · rw [hui, hif]; simp
        · rw [hcmp u hu hui (h u hu hd hui)]
      have hev' : EvOk P T ops o (stX (lst listed) s0 tr) t.nid t.e t.rd t.sh := by
        refine hev.congr (by rw [stX_len.1, stX_len.1]) (by rw [stX_len.2.1, stX_len.2.1]) (fun t' ht' => hagE t' fun u hu hd hne => ?_) (fun k hk => hagS k fun u hu hd hne => ?_) fun k hk => ?_
        · unfold touchB
          rw [← htl] at ht'
          simp [hd, ht']
        · unfold touchB
          simp only [Bool.or_eq_true, List.any_eq_true]
          exact .inl (.inl (.inr ⟨k, hd, by simp [hk]⟩))
        · by_cases hsb : shpB tr k = true
          · have h1 : ∀ u ∈ tr, u.st = true ∨ k ∉ u.mids := by
              intro u hu
              unfold shpB at hsb
              have := List.all_eq_true.1 hsb u hu
              simpa using this
            rw [stX_shp htr h1, ← htext, stX_shp htr h1]
          · rw [hagS k fun u hu hd hne => ?_]
            unfold touchB
            simp only [Bool.or_eq_true, List.any_eq_true]
            exact .inl (.inr ⟨k, hk, by simp [hsb, hd]⟩)
      have hfresh : (getO t.e.mods t.nid).isSome = true → Fresh t.nid (stX (lst listed) s0 tr) := by
        intro hsome
        have hcr : t.nid ∈ t.mids := by
          apply Classical.byContradiction
          intro hno
          rw [getO_none hno] at hsome
          cases hsome
        have hbd : N0 ≤ t.nid ∧ t.nid < s0.S.length := by
          have := (hpair t hmt).1
          simpa [hcr] using this
        -- what has come up does not name it
        have hno : ∀ u ∈ tr, lst listed u.i = true → t.nid ∉ evIds u.e ∧ t.nid ∉ u.mids := by
          intro u hu hul
          have hne : u.i ≠ i := fun e => by rw [e, hif] at hul; cases hul
          have key : touchB tr t u = true → t.nid ∉ evIds u.e ∧ t.nid ∉ u.mids := by
            intro htc
            have hc := hcmp u hu hne htc
            rw [hul] at hc
            have hlt' : u.i < i := by simpa using hc.symm
            have hp := (hpair t hmt).2 u hu
            unfold pairB at hp
            simp only [htc, hti, Bool.not_true, Bool.or_false, Bool.or_eq_true, beq_iff_eq, hne, false_or, if_pos hlt', Bool.and_eq_true, Bool.not_eq_true', Bool.and_eq_false_iff] at hp
            have := hp.2.resolve_left (by simp [hcr])
            simpa using this
          refine ⟨fun h => ?_, fun h => ?_⟩
          · refine (key ?_).1 h
            unfold touchB
            simp [hcr, h]
          · refine (key ?_).2 h
            unfold touchB
            simp only [Bool.or_eq_true, List.any_eq_true]
            exact .inl (.inl (.inr ⟨t.nid, h, by simp [hcr]⟩))
        have hwalk : ∀ (r : List TrE), (∀ u ∈ r, lst listed u.i = true → t.nid ∉ evIds u.e ∧ t.nid ∉ u.mids) →
            ((stX (lst listed) s0 r).S[t.nid]? = some .gone) ∧ (∀ t' x, get (stX (lst listed) s0 r).env t' = some x → t.nid ∉ fids x) ∧ ∀ (k : Nat) (ob : Ob), (stX (lst listed) s0 r).S[k]? = some ob → t.nid ∉ oids ob := by
          intro r
          induction r with
          | nil =>
            intro _
            exact ⟨hgone _ hbd.1 hbd.2, fun t' x hx h => by have := hids t' x hx _ h; omega, fun k ob hk h => by have := hobs k ob hk _ h; omega⟩
          | cons u r ihr =>
            intro h
            obtain ⟨q1, q2, q3⟩ := ihr fun u' hu' => h u' (List.mem_cons_of_mem _ hu')
            unfold stX
            split
            · rename_i hul
              obtain ⟨n1, n2⟩ := h u List.mem_cons_self hul
              refine ⟨by rw [app_S n2]; exact q1, fun t' x hx hx' => ?_, fun k ob hk hk' => ?_⟩
              · by_cases hd : u.d = some t'
                · unfold Ev.app putE at hx
                  rw [hd] at hx
                  simp [get] at hx
                  subst hx
                  exact n1 (by unfold evIds; exact List.mem_append_left _ hx')
                · rw [app_get hd] at hx
                  exact q2 t' x hx hx'
              · unfold Ev.app at hk
                simp only at hk
                rw [updS_get, Nat.zero_add, Option.map_eq_some_iff] at hk
                obtain ⟨ob0, h0, hk⟩ := hk
                cases hg : getO u.e.mods k with
                | none => rw [hg] at hk; simp at hk; subst hk; exact q3 k _ h0 hk'
                | some ob1 =>
                  rw [hg] at hk
                  simp at hk
                  subst hk
                  have hmem : ∀ (m : List (Nat × Ob)), getO m k = some ob1 → (k, ob1) ∈ m := by
                    intro m
                    induction m with
                    | nil => intro h; cases h
                    | cons p m ihm =>
                      obtain ⟨j, o1⟩ := p
                      intro h
                      simp only [getO] at h
                      split at h
                      · rename_i hj; cases h; subst hj; simp
                      · exact List.mem_cons_of_mem _ (ihm h)
                  exact n1 (by unfold evIds; exact List.mem_append_right _ (List.mem_flatMap.2 ⟨_, hmem _ hg, hk'⟩))
            · exact ⟨q1, q2, q3⟩
        obtain ⟨q1, q2, q3⟩ := hwalk tr hno
        exact ⟨q1, by rw [stX_len.2.2]; omega, q2, q3⟩
      have hdo := hev'.do hT (by rw [stX_len.2.2, stX_len.1]; exact hpl) hfresh
      unfold wpOp
      simp only [ho]
      have hset : ∀ j, lst (listed.setIfInBounds i true) j = if i = j then true else lst listed j := by
        intro j
        unfold lst
        simp only [Array.getD_eq_getD_getElem?, Array.getElem?_setIfInBounds]
        split
        · simp [hsz, hlt]
        · rfl
      refine hdo w I L a hs _ Q' fun a' w1 I1 L1 hs1 ht1 => ?_
      -- what came up is told by the events
      have hwE : ∀ t', get (stX (lst (listed.setIfInBounds i true)) s0 tr).env t' = get (t.e.app o.dst (stX (lst listed) s0 tr)).env t' := by
        intro t'
        by_cases hd : t.d = some t'
        · have h1 : get (stX (fun j => decide (j ≤ i)) s0 tr).env t' = some t.e.v := by
            rw [htrs, stX_skip fun u hu => by have := hl u hu; simp; omega]
            simp only [stX, hti, Nat.le_refl, decide_true, if_true]
            unfold Ev.app putE
            rw [hd]; simp [get]
          have h2 : get (stX (lst (listed.setIfInBounds i true)) s0 tr).env t' = get (stX (fun j => decide (j ≤ i)) s0 tr).env t' := by
            refine stX_env fun u hu hud => ?_
            rw [hset]
            by_cases hui : i = u.i
            · simp [hui]
            · rw [if_neg hui, hcmp u hu (Ne.symm hui) (by unfold touchB; simp [hud, hd])]
              simp; omega
          rw [h2, h1, ← htd]
          unfold Ev.app putE
          rw [hd]; simp [get]
        · rw [← htd, app_get hd]
          refine stX_env fun u hu hud => ?_
          rw [hset, if_neg]
          intro hui
          rw [hself u hu hui.symm] at hud
          exact hd hud
      have hwS : (stX (lst (listed.setIfInBounds i true)) s0 tr).S = (t.e.app o.dst (stX (lst listed) s0 tr)).S := by
        apply List.ext_getElem?
        intro k
        by_cases hm : k ∈ t.mids
        · have h1 : (stX (fun j => decide (j ≤ i)) s0 tr).S[k]? = (t.e.app t.d (stX (fun _ => true) s0 r)).S[k]? := by
            rw [htrs, stX_skip fun u hu => by have := hl u hu; simp; omega]
            simp only [stX, hti, Nat.le_refl, decide_true, if_true]
            rw [stX_all fun u hu => by have := hr u hu; simp; omega]
          have h2 : (stX (lst (listed.setIfInBounds i true)) s0 tr).S[k]? = (stX (fun j => decide (j ≤ i)) s0 tr).S[k]? := by
            refine stX_S fun u hu hud => ?_
            rw [hset]
            by_cases hui : i = u.i
            · simp [hui]
            · rw [if_neg hui, hcmp u hu (Ne.symm hui) ?_]
              · simp; omega
              · unfold touchB
                simp only [Bool.or_eq_true, List.any_eq_true]
                exact .inl (.inl (.inr ⟨k, hud, by simp [hm]⟩))
          rw [h2, h1]
          obtain ⟨ob, hob⟩ := getO_some hm
          unfold Ev.app
          simp only
          rw [updS_get, updS_get, Nat.zero_add, hob]
          have e1 := (stX_len (X := lst listed) (s0 := s0) (tr := tr)).1
          have e2 := (stX_len (X := fun _ => true) (s0 := s0) (tr := r)).1
          by_cases hk : k < s0.S.length
          · rw [List.getElem?_eq_getElem (by omega), List.getElem?_eq_getElem (by omega)]; rfl
          · rw [List.getElem?_eq_none (by omega), List.getElem?_eq_none (by omega)]
        · rw [app_S hm]
          refine stX_S fun u hu hud => ?_
          rw [hset, if_neg]
          intro hui
          rw [hself u hu hui.symm] at hud
          exact hm hud
      have hs2 : SR w1 I1 L1 (stX (lst (listed.setIfInBounds i true)) s0 tr) a' := hs1.write hwE hwS (by rw [stX_len.2.1]; exact (stX_len (X := lst listed) (s0 := s0) (tr := tr)).2.1.symm)
      have ht2 : Step w0 I0 L0 s0 w1 I1 L1 (stX (lst (listed.setIfInBounds i true)) s0 tr) := by
        have := ht.trans ht1
        refine ⟨by rw [hwS]; exact this.evo, by rw [stX_len.2.2], this.lay⟩
      refine ih _ a' w1 I1 L1 (by simp [hsz]) ?_ ?_ hs2 ht2
      · intro j oj hoj hj e he hb
        rw [hset] at hj ⊢
        split
        · rfl
        · by_cases hij : i = j
          · subst hij
            rw [ho] at hoj; cases hoj
            exact hi2 e he hb
          · rw [if_neg hij] at hj
            exact hcl j oj hoj hj e he hb
      · have := unl_set (by omega) hif ops.size hlt
        omega
end
end Go.Proofs.YtjlamhilnkadcaaGreatDoor.Pay
