/- Calls of functions over abstract data; what a state may be taken for. No statement of the seed is proved here. -/
import Derived.Test.YtjlamhilnkadcaaGreatDoorPayS
namespace Go.Proofs.YtjlamhilnkadcaaGreatDoor.Pay
open Go Go.RowKit
set_option linter.unusedVariables false
set_option linter.unusedSimpArgs false

/-- A call of a function: what it hands back, and the objects behind it; the first ones are those that were handed to it. -/
def WpF (P : Program) (f : FuncId) (args : List FV) (S : List Ob) (Q : FV → List Ob → Prop) : Prop :=
  ∀ w I L vs, VRelL w I L args vs → OR w I L S → Calls P f vs.toArray w fun _e _w' => ∃ r v S' I' L', _e = .returned v ∧ Q r S' ∧ VRel _w' I' L' r v ∧ OR _w' I' L' S' ∧
    Evo w I (owns S L) _w' I' (owns S' L') ∧ S.length ≤ S'.length ∧ ∀ i : Nat, i < S.length → L'[i]? = L[i]?

theorem WpF.mono {P : Program} {f : FuncId} {args : List FV} {S : List Ob} {Q Q' : FV → List Ob → Prop} (h : WpF P f args S Q) (hq : ∀ r S, Q r S → Q' r S) : WpF P f args S Q' :=
  fun w I L vs h1 h2 => (h w I L vs h1 h2).mono fun _ _ ⟨r, v, S', I', L', e1, q, rest⟩ => ⟨r, v, S', I', L', e1, hq _ _ q, rest⟩

theorem owns_gone : ∀ (q : Nat) (l : List Lay), owns (List.replicate q .gone) l = []
  | 0, l => by simp [owns]
  | q + 1, [] => by simp [List.replicate_succ, owns]
  | q + 1, x :: l => by simp only [List.replicate_succ, owns, own, List.nil_append]; exact owns_gone q l

/-- A row that is handed back stands behind what was handed over, and nothing else is told. -/
theorem WpF.row {P : Program} {f : FuncId} {args : List FV} {S : List Ob} {e k n : Nat} {xs : List D} (h : WpF P f args S (fun r S' => ∃ j, r = .sl j n ∧ S'[j]? = some (.arr e k xs))) (m : Nat) (hm : S.length = m := by rfl) :
    WpF P f args S (fun r S' => r = .sl m n ∧ S' = List.replicate m .gone ++ [.arr e k xs]) := fun w I L vs h1 h2 => (h w I L vs h1 h2).mono fun ex w' ⟨r, v, S', I', L', e1, ⟨j, hr, hj⟩, hv, ho, he, hlen, hL⟩ => by
  subst hr; subst hm
  simp only [VRel] at hv
  obtain ⟨l, hd, cap, hl, hh, rfl⟩ := hv
  have hlen' : (L'.take S.length).length = S.length := by rw [List.length_take, ho.len]; omega
  have hown : owns (List.replicate S.length .gone ++ [.arr e k xs]) (L'.take S.length ++ [l]) = own (.arr e k xs) l := by
    rw [owns_append _ _ _ _ (by simp [hlen']), owns_gone, List.nil_append]
  have hsub : ∀ b ∈ own (.arr e k xs) l, b ∈ owns S' L' := fun b hb => owns_mem hj hl b hb
  refine ⟨.sl S.length n, _, _, I', L'.take S.length ++ [l], e1, ⟨rfl, rfl⟩, ?_, ⟨by simp [hlen'], ?_, ?_, ?_, ho.imm⟩, ⟨he.os, he.tape, he.output, he.size, he.keep, he.imm, he.immNew, ?_⟩, by simp, ?_⟩
  · simp only [VRel]
    exact ⟨l, hd, cap, by rw [List.getElem?_append_right (by omega), hlen']; simp, hh, rfl⟩
  · intro i o l' q1 q2
    by_cases hi : i < S.length
    · rw [List.getElem?_append_left (by simpa using hi), List.getElem?_replicate, if_pos hi] at q1
      cases q1; trivial
    · rw [List.getElem?_append_right (by simp; omega)] at q1
      rw [List.getElem?_append_right (by omega), hlen'] at q2
      simp only [List.length_replicate] at q1
      have hz : i - S.length = 0 := by have := (List.getElem?_eq_some_iff.1 q1).1; simp at this; omega
      rw [hz] at q1 q2
      simp at q1 q2
      subst q1; subst q2
      rcases ho.obs _ _ _ hj hl with ⟨b, c, us, rfl, q⟩ | q
      · exact .inl ⟨b, c, us, rfl, q⟩
      · exact .inr q
  · rw [hown]; exact own_nodup _ _
  · rw [hown]; exact fun b hb => ho.sep b (hsub b hb)
  · rw [hown]; exact fun b hb => he.own b (hsub b hb)
  · intro i hi
    rw [List.getElem?_append_left (by omega), List.getElem?_take, if_pos hi]
    exact hL i hi

def envFrom : Nat → List FV → List (Nat × FV)
  | _, [] => []
  | n, x :: r => (n, x) :: envFrom (n + 1) r

def retOne (T : Nat → Option TI) (s : St) : ResultVar → Option FV
  | .tmp t => get s.env t
  | .cell d t => (get s.env d).bind (evLd T s t)

def retAll (T : Nat → Option TI) (s : St) : List ResultVar → Option (List FV)
  | [] => some []
  | r :: rs => (retOne T s r).bind fun x => (retAll T s rs).map (x :: ·)

def pack : List FV → FV
  | [x] => x
  | xs => .tup xs

/-- Where a function returns. -/
def retQ (T : Nat → Option TI) (res : List ResultVar) (pin : Nat) (Q : FV → List Ob → Prop) (e : Exit) (s : St) : Prop :=
  (e = .normal ∨ e = .ret) ∧ ∃ xs, retAll T s res = some xs ∧ Q (pack xs) s.S ∧ pin ≤ s.S.length

section
variable {P : Program} {T : Nat → Option TI} {w w' : World} {I I' : Nat → Prop} {L L' : List Lay} {s s' : St} {a : Act} {all : Array Oper} {o : Oper} {rest : List Oper} {Q : Exit → St → Prop}

theorem get_envFrom : ∀ {xs : List FV} {n t : Nat} {x : FV}, get (envFrom n xs) t = some x → ∃ i, t = n + i ∧ xs[i]? = some x
  | [], n, t, x, h => by simp [envFrom, get] at h
  | y :: xs, n, t, x, h => by
    simp only [envFrom, get] at h
    by_cases hn : n = t
    · rw [if_pos hn] at h
      cases h
      exact ⟨0, by omega, rfl⟩
    · rw [if_neg hn] at h
      obtain ⟨i, h1, h2⟩ := get_envFrom h
      exact ⟨i + 1, by omega, by simpa using h2⟩

theorem retOne_ok (hT : TabOk P T) (hs : SR w I L s a) {r : ResultVar} {x : FV} (h : retOne T s r = some x) :
    ∃ v, (match r with | .tmp t => pure (a.tmps.getD t undef) | .cell d t => do loadVar t (← asAddr (a.tmps.getD d undef)) : Sem Value).run P w = .ok v w ∧ VRel w I L x v := by
  cases r with
  | tmp t => exact ⟨_, rfl, hs.env t x h⟩
  | cell d t =>
    simp only [retOne, Option.bind_eq_some_iff] at h
    obtain ⟨p, hp, hx⟩ := h
    have h1 := hs.env d p hp
    obtain ⟨v, hv0, hz⟩ := evLd_ok hT hs h1 hx
    have hv := hv0 w fun _ _ => rfl
    refine ⟨v, ?_, hz⟩
    have : ∃ ad, a.tmps.getD d undef = .pointer (some ad) := by
      cases p with
      | ref id off => simp only [VRel] at h1; obtain ⟨b, _, h⟩ := h1; exact ⟨_, h⟩
      | er id k i off => simp only [VRel] at h1; obtain ⟨b, c, _, h⟩ := h1; exact ⟨_, h⟩
      | dp cs => simp only [VRel] at h1; obtain ⟨b, o, vs, h, _⟩ := h1; exact ⟨_, h⟩
      | _ => simp [evLd] at hx
    obtain ⟨ad, had⟩ := this
    rw [had] at hv
    simp only [had, asAddr, Sem.run_bind, Sem.run_pure, Result.andThen_ok]
    simpa only [Instr.loadAt, Instr.sureAddr, Sem.run_bind, Sem.run_pure, Result.andThen_ok] using hv

theorem retAll_ok (hT : TabOk P T) (hs : SR w I L s a) : ∀ {rs : List ResultVar} {xs : List FV}, retAll T s rs = some xs →
    ∃ vs, (rs.mapM fun r => (match r with | .tmp t => pure (a.tmps.getD t undef) | .cell d t => do loadVar t (← asAddr (a.tmps.getD d undef)) : Sem Value)).run P w = .ok vs w ∧ VRelL w I L xs vs
  | [], xs, h => by simp [retAll] at h; subst h; exact ⟨[], rfl, by simp [VRelL]⟩
  | r :: rs, xs, h => by
    simp only [retAll, Option.bind_eq_some_iff, Option.map_eq_some_iff] at h
    obtain ⟨x, hx, ys, hy, rfl⟩ := h
    obtain ⟨v, hv, hz⟩ := retOne_ok hT hs hx
    obtain ⟨vs, hvs, hzs⟩ := retAll_ok hT hs hy
    refine ⟨v :: vs, ?_, by simp only [VRelL]; exact ⟨v, vs, rfl, hz, hzs⟩⟩
    rw [List.mapM_cons, Sem.run_bind, hv]
    simp only [Sem.run_bind, Sem.run_pure, Result.andThen_ok, hvs]

theorem results_run (hT : TabOk P T) (hs : SR w I L s a) {fn : Func} {xs : List FV} (h : retAll T s fn.results.toList = some xs) : ∃ v, (results fn a.tmps).run P w = .ok v w ∧ VRel w I L (pack xs) v := by
  obtain ⟨vs, hvs, hz⟩ := retAll_ok hT hs h
  have hr : (results fn a.tmps).run P w = .ok (if h : vs.toArray.size = 1 then vs.toArray[0] else .tuple vs.toArray) w := by
    unfold results
    rw [Array.mapM_eq_mapM_toList]
    simp only [Sem.run_bind, Sem.run_map, Sem.run_pure]
    exact congrArg (fun r : Result (List Value) => (r.andThen (fun a w' => Result.ok a.toArray w')).andThen (fun a w' => Result.ok (if h : a.size = 1 then a[0] else Value.tuple a) w')) hvs
  refine ⟨_, hr, ?_⟩
  have hl := hz.length
  cases xs with
  | nil => 
    have : vs = [] := List.eq_nil_of_length_eq_zero (by simpa using hl)
    subst this
    simp only [pack, VRel]
    exact ⟨[], by simp, hz⟩
  | cons x xs =>
    cases xs with
    | nil =>
      simp only [VRelL] at hz
      obtain ⟨v, r, rfl, h1, rfl⟩ := hz
      simpa [pack] using h1
    | cons y ys =>
      simp only [pack, VRel]
      refine ⟨vs, ?_, hz⟩
      simp at hl
      rw [dif_neg (by simp; omega)]

/-- A function's own text is gone through. -/
theorem WpF.enter (hT : TabOk P T) {f : FuncId} {fn : Func} {c : Code} {args : List FV} {S : List Ob} {Q : FV → List Ob → Prop} (hf : P.funcs[f]? = some fn) (hb : fn.body = some c) (hn : args.length ≤ fn.ntmps)
    (h : WpC P c ⟨envFrom 0 args, S, fn.ntmps, S.length⟩ (retQ T fn.results.toList S.length Q)) : WpF P f args S Q := fun w I L vs ha hO => by
  have hvl := ha.length
  have hs : SR w I L ⟨envFrom 0 args, S, fn.ntmps, S.length⟩ { tmps := vs.toArray ++ Array.replicate (fn.ntmps - vs.toArray.size) undef, defers := [] } := by
    refine ⟨fun t x hx => ?_, by simp; omega, hO.len, hO.obs, hO.nodup, hO.sep, hO.imm, rfl⟩
    obtain ⟨i, rfl, hi⟩ := get_envFrom hx
    obtain ⟨v, hv, hz⟩ := ha.get i x hi
    have hlt : i < vs.length := (List.getElem?_eq_some_iff.1 hv).1
    rw [Nat.zero_add, Array.getD_eq_getD_getElem?, Array.getElem?_append_left (by simpa using hlt)]
    simpa [hv] using hz
  refine calls_of_wp hf hb (wp_mono (h w I L _ hs) fun e a' w' p => ?_)
  obtain ⟨s', I', L', ⟨he, xs, hxs, hq, hpin⟩, hs', ⟨st, sp, sl⟩⟩ := p
  obtain ⟨v, hv, hz⟩ := results_run hT hs' hxs
  rcases he with rfl | rfl
  · exact ⟨hs'.defers, v, hv, _, v, s'.S, I', L', rfl, hq, hz, hs'.or, st, hpin, sl⟩
  · exact ⟨hs'.defers, v, hv, _, v, s'.S, I', L', rfl, hq, hz, hs'.or, st, hpin, sl⟩

/-! ### What does not lead to objects -/

/-- A variable's cell, read as data. -/
def cellD (S : List Ob) : FV → Option D
  | .d x => some x
  | .sl id n => match S[id]? with
    | some (.frz k xs) => if n ≤ xs.length then some (.list k (xs.take n)) else none
    | some (.arr _ k xs) => if n ≤ xs.length then some (.list k (xs.take n)) else none
    | _ => none
  | _ => none
def cellsD (S : List Ob) : List FV → Option (List D)
  | [] => some []
  | x :: r => (cellD S x).bind fun y => (cellsD S r).map (y :: ·)

mutual
def viewF (lend : Bool) (S : List Ob) : FV → Option FV
  | .d x => some (.d x)
  | .ref id off => match S[id]? with
    | some (.cells _ cs) => if lend = true then (cellsD S cs).map fun ds => .dp (ds.drop off) else none
    | _ => none
  | .sl id n => match S[id]? with
    | some (.frz k xs) => if n ≤ xs.length then some (.d (.list k (xs.take n))) else none
    | some (.arr _ k xs) => if lend = true ∧ n ≤ xs.length then some (.d (.list k (xs.take n))) else none
    | _ => none
  | .mp id => match S[id]? with
    | some (.fmap ks es) => some (.d (.map ks es))
    | some (.map ks es) => if lend = true then some (.d (.map ks es)) else none
    | _ => none
  | .dp cs => some (.dp cs)
  | .agg cs => (viewFs lend S cs).map mkV
  | .fn f cs => (viewFs lend S cs).map (.fn f)
  | .tup cs => (viewFs lend S cs).map .tup
  | _ => none
def viewFs (lend : Bool) (S : List Ob) : List FV → Option (List FV)
  | [] => some []
  | x :: r => (viewF lend S x).bind fun y => (viewFs lend S r).map (y :: ·)
end

/-- What is immutable, with what is lent. -/
def lentI (I : Nat → Prop) (S : List Ob) (L : List Lay) (b : Nat) : Prop := I b ∨ b ∈ owns S L

theorem frz_list (hs : SR w I L s a) {id k n : Nat} {xs : List D} {v : Value} (hS : s.S[id]? = some (.frz k xs)) (hn : n ≤ xs.length) (hv : VRel w I L (.sl id n) v) : DRel w I (.list k (xs.take n)) v := by
  simp only [VRel] at hv
  obtain ⟨l, hd, cap, hl, hh, rfl⟩ := hv
  obtain ⟨hd', cp, hh', hd1⟩ := hs.obs _ _ _ hS hl
  rw [hh] at hh'
  simp only [Option.some.injEq, Prod.mk.injEq] at hh'
  obtain ⟨rfl, rfl⟩ := hh'
  simp only [DRel] at hd1 ⊢
  obtain ⟨base, c, he, hle, hx⟩ := hd1
  simp only [Value.slice.injEq, true_and] at he
  obtain ⟨rfl, rfl⟩ := he
  have hlen : (xs.take n).length = n := by rw [List.length_take]; omega
  refine ⟨hd, cap, by rw [hlen], by omega, ?_⟩
  rcases hx with hx | ⟨b, o, vs, rfl, hb, hc, hr⟩
  · exact .inl (by subst hx; simp)
  · exact .inr ⟨b, o, vs.take (n * k), rfl, hb, cellsAt_take hc _, hr.take n⟩

theorem arr_list (hs : SR w I L s a) {id k n : Nat} {e : TypeId} {xs : List D} {v : Value} (hS : s.S[id]? = some (.arr e k xs)) (hn : n ≤ xs.length) (hv : VRel w I L (.sl id n) v) : DRel w (lentI I s.S L) (.list k (xs.take n)) v := by
  simp only [VRel] at hv
  obtain ⟨l, hd, cap, hl, hh, rfl⟩ := hv
  have hcap := (sl_cap hs hS hl hh).1
  have hlen : (xs.take n).length = n := by rw [List.length_take]; omega
  simp only [DRel]
  refine ⟨hd, cap, by rw [hlen], by omega, ?_⟩
  rcases hs.obs _ _ _ hS hl with ⟨base, cp, vs, rfl, hown, hr⟩ | ⟨hd', rfl, rfl⟩
  · simp only [Lay.hdr, Option.some.injEq, Prod.mk.injEq] at hh
    obtain ⟨rfl, rfl⟩ := hh
    by_cases h0 : 0 < vs.length
    · obtain ⟨b, rfl, hc⟩ := ownsRow_cells hown h0
      exact .inr ⟨b, 0, vs.take (n * k), rfl, .inr (owns_mem hS hl b (by simp [own])), cellsAt_take hc _, DRelR.mono (fun _ _ => rfl) (fun b hb => .inl hb) _ _ _ (hr.take n)⟩
    · by_cases hx0 : xs.take n = []
      · exact .inl hx0
      · -- elements of no cells
        cases base with
        | none =>
          rcases hown.2 with ⟨_, h2⟩ | ⟨g, _, _, he, _⟩
          · exact absurd (by rw [List.eq_nil_of_length_eq_zero h2]; simp) hx0
          · simp [Lay.head] at he
        | some b =>
          have hv0 : vs = [] := List.eq_nil_of_length_eq_zero (by omega)
          subst hv0
          exact .inr ⟨b, 0, [], rfl, .inr (owns_mem hS hl b (by simp [own])), fun j v hv => by simp at hv, by simpa using DRelR.mono (fun _ _ => rfl) (fun b hb => .inl hb) _ _ _ (hr.take n)⟩
  · exact .inl (by simp)

mutual
theorem viewF_ok (hs : SR w I L s a) (L0 : List Lay) : ∀ {x y : FV} {v : Value}, VRel w I L x v → viewF false s.S x = some y → VRel w I L0 y v
  | .d x, y, v, hv, h => by simp [viewF] at h; subst h; simpa only [VRel] using hv
  | .sl id n, y, v, hv, h => by
    simp only [viewF] at h
    split at h
    · rename_i k xs hS
      split at h
      · rename_i hn; cases h; simp only [VRel]; exact frz_list hs hS hn hv
      · cases h
    · simp at h
    · cases h
  | .mp id, y, v, hv, h => by
    simp only [viewF] at h
    split at h
    · rename_i ks es hS
      cases h
      simp only [VRel] at hv
      obtain ⟨r, hl, rfl⟩ := hv
      obtain ⟨r', he, hd⟩ := hs.obs _ _ _ hS hl
      cases he
      simpa only [VRel] using hd
    · simp at h
    · cases h
  | .dp cs, y, v, hv, h => by simp [viewF] at h; subst h; simpa only [VRel] using hv
  | .agg cs, y, v, hv, h => by
    simp only [viewF, Option.map_eq_some_iff] at h
    obtain ⟨ys, hy, rfl⟩ := h
    simp only [VRel] at hv
    obtain ⟨vs, rfl, ho, hr⟩ := hv
    exact mkV_ok (viewFs_ok hs L0 hr hy) ho
  | .fn f cs, y, v, hv, h => by
    simp only [viewF, Option.map_eq_some_iff] at h
    obtain ⟨ys, hy, rfl⟩ := h
    simp only [VRel] at hv ⊢
    obtain ⟨vs, rfl, hr⟩ := hv
    exact ⟨vs, rfl, viewFs_ok hs L0 hr hy⟩
  | .tup cs, y, v, hv, h => by
    simp only [viewF, Option.map_eq_some_iff] at h
    obtain ⟨ys, hy, rfl⟩ := h
    simp only [VRel] at hv ⊢
    obtain ⟨vs, rfl, hr⟩ := hv
    exact ⟨vs, rfl, viewFs_ok hs L0 hr hy⟩
  | .ref _ _, y, v, hv, h => by
    simp only [viewF] at h
    split at h
    · simp at h
    · cases h
  | .er _ _ _ _, y, v, hv, h => by simp [viewF] at h
  | .so _ _ _ _, y, v, hv, h => by simp [viewF] at h
  | .sc _ _ _, y, v, hv, h => by simp [viewF] at h
  | .dead, y, v, hv, h => by simp [viewF] at h
theorem viewFs_ok (hs : SR w I L s a) (L0 : List Lay) : ∀ {xs ys : List FV} {vs : List Value}, VRelL w I L xs vs → viewFs false s.S xs = some ys → VRelL w I L0 ys vs
  | [], ys, vs, hv, h => by simp [viewFs] at h; subst h; simpa [VRelL] using hv
  | x :: xs, ys, vs, hv, h => by
    simp only [viewFs, Option.bind_eq_some_iff, Option.map_eq_some_iff] at h
    obtain ⟨y, hy, zs, hz, rfl⟩ := h
    simp only [VRelL] at hv ⊢
    obtain ⟨v, r, rfl, h1, h2⟩ := hv
    exact ⟨v, r, rfl, viewF_ok hs L0 h1 hy, viewFs_ok hs L0 h2 hz⟩
end

theorem cellD_ok (hs : SR w I L s a) {x : FV} {y : D} {v : Value} (hv : VRel w I L x v) (h : cellD s.S x = some y) : DRel w (lentI I s.S L) y v := by
  unfold cellD at h
  split at h
  · cases h; simp only [VRel] at hv; exact DRel.mono (fun _ _ => rfl) (fun b hb => .inl hb) _ _ hv
  · split at h
    · rename_i k xs hS
      split at h
      · rename_i hn; cases h; exact DRel.mono (fun _ _ => rfl) (fun b hb => .inl hb) _ _ (frz_list hs hS hn hv)
      · cases h
    · rename_i e k xs hS
      split at h
      · rename_i hn; cases h; exact arr_list hs hS hn hv
      · cases h
    · cases h
  · cases h
theorem cellsD_ok (hs : SR w I L s a) : ∀ {xs : List FV} {ys : List D} {vs : List Value}, VRelL w I L xs vs → cellsD s.S xs = some ys → DRelL w (lentI I s.S L) ys vs
  | [], ys, vs, hv, h => by simp [cellsD] at h; subst h; simpa [VRelL, DRelL] using hv
  | x :: r, ys, vs, hv, h => by
    simp only [cellsD, Option.bind_eq_some_iff, Option.map_eq_some_iff] at h
    obtain ⟨y, hy, zs, hz, rfl⟩ := h
    simp only [VRelL] at hv
    obtain ⟨v, u, rfl, h1, h2⟩ := hv
    simp only [DRelL]
    exact ⟨v, u, rfl, cellD_ok hs h1 hy, cellsD_ok hs h2 hz⟩

mutual
theorem viewL_ok (hs : SR w I L s a) (L0 : List Lay) : ∀ {x y : FV} {v : Value}, VRel w I L x v → viewF true s.S x = some y → VRel w (lentI I s.S L) L0 y v
  | .d x, y, v, hv, h => by simp [viewF] at h; subst h; simp only [VRel] at hv ⊢; exact DRel.mono (fun _ _ => rfl) (fun b hb => .inl hb) _ _ hv
  | .sl id n, y, v, hv, h => by
    simp only [viewF] at h
    split at h
    · rename_i k xs hS
      split at h
      · rename_i hn; cases h; simp only [VRel]; exact DRel.mono (fun _ _ => rfl) (fun b hb => .inl hb) _ _ (frz_list hs hS hn hv)
      · cases h
    · rename_i e k xs hS
      split at h
      · rename_i hn; cases h; simp only [VRel]; exact arr_list hs hS hn.2 hv
      · cases h
    · cases h
  | .mp id, y, v, hv, h => by
    simp only [viewF] at h
    split at h
    · rename_i ks es hS
      cases h
      simp only [VRel] at hv
      obtain ⟨r, hl, rfl⟩ := hv
      obtain ⟨r', he, hd⟩ := hs.obs _ _ _ hS hl
      cases he
      simp only [VRel]
      exact DRel.mono (fun _ _ => rfl) (fun b hb => .inl hb) _ _ hd
    · rename_i ks es hS
      simp only [if_true] at h
      cases h
      simp only [VRel] at hv
      obtain ⟨r, hl, rfl⟩ := hv
      obtain ⟨r', ents, clock, he, hr, hbo, h1, h2⟩ := hs.obs _ _ _ hS hl
      cases he
      simp only [VRel, DRel]
      exact ⟨r, ents, clock, rfl, .inr (owns_mem hS hl r (by simp [own])), hr, hbo, DRelL.mono (fun _ _ => rfl) (fun b hb => .inl hb) _ _ h1, DRelL.mono (fun _ _ => rfl) (fun b hb => .inl hb) _ _ h2⟩
    · cases h
  | .dp cs, y, v, hv, h => by
    simp [viewF] at h; subst h
    simp only [VRel] at hv ⊢
    obtain ⟨b, o, vs, h1, h2, h3, h4, h5⟩ := hv
    exact ⟨b, o, vs, h1, .inl h2, h3, h4, DRelL.mono (fun _ _ => rfl) (fun b hb => .inl hb) _ _ h5⟩
  | .agg cs, y, v, hv, h => by
    simp only [viewF, Option.map_eq_some_iff] at h
    obtain ⟨ys, hy, rfl⟩ := h
    simp only [VRel] at hv
    obtain ⟨vs, rfl, ho, hr⟩ := hv
    exact mkV_ok (viewLs_ok hs L0 hr hy) ho
  | .fn f cs, y, v, hv, h => by
    simp only [viewF, Option.map_eq_some_iff] at h
    obtain ⟨ys, hy, rfl⟩ := h
    simp only [VRel] at hv ⊢
    obtain ⟨vs, rfl, hr⟩ := hv
    exact ⟨vs, rfl, viewLs_ok hs L0 hr hy⟩
  | .tup cs, y, v, hv, h => by
    simp only [viewF, Option.map_eq_some_iff] at h
    obtain ⟨ys, hy, rfl⟩ := h
    simp only [VRel] at hv ⊢
    obtain ⟨vs, rfl, hr⟩ := hv
    exact ⟨vs, rfl, viewLs_ok hs L0 hr hy⟩
  | .ref id off, y, v, hv, h => by
    simp only [viewF] at h
    split at h
    · rename_i t cs hS
      simp only [if_true, Option.map_eq_some_iff] at h
      obtain ⟨ds, hds, rfl⟩ := h
      simp only [VRel] at hv ⊢
      obtain ⟨b, hl, rfl⟩ := hv
      obtain ⟨b', vs, he, hb, ho, hr⟩ := hs.obs _ _ _ hS hl
      cases he
      have hc := cellsAt_drop (cellsAt_block hb) off
      simp only [Nat.zero_add] at hc
      exact ⟨b, off, vs.drop off, rfl, .inr (owns_mem hS hl b (by simp [own])), hc, ho.drop off, (cellsD_ok hs hr hds).drop off⟩
    · cases h
  | .er _ _ _ _, y, v, hv, h => by simp [viewF] at h
  | .so _ _ _ _, y, v, hv, h => by simp [viewF] at h
  | .sc _ _ _, y, v, hv, h => by simp [viewF] at h
  | .dead, y, v, hv, h => by simp [viewF] at h
theorem viewLs_ok (hs : SR w I L s a) (L0 : List Lay) : ∀ {xs ys : List FV} {vs : List Value}, VRelL w I L xs vs → viewFs true s.S xs = some ys → VRelL w (lentI I s.S L) L0 ys vs
  | [], ys, vs, hv, h => by simp [viewFs] at h; subst h; simpa [VRelL] using hv
  | x :: xs, ys, vs, hv, h => by
    simp only [viewFs, Option.bind_eq_some_iff, Option.map_eq_some_iff] at h
    obtain ⟨y, hy, zs, hz, rfl⟩ := h
    simp only [VRelL] at hv ⊢
    obtain ⟨v, r, rfl, h1, h2⟩ := hv
    exact ⟨v, r, rfl, viewL_ok hs L0 h1 hy, viewLs_ok hs L0 h2 hz⟩
end

end
end Go.Proofs.YtjlamhilnkadcaaGreatDoor.Pay
