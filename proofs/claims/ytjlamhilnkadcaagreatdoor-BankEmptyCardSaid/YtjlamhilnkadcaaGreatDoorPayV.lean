/- Regions that draw their order: what an event means. No statement of the seed is proved here. -/
import Derived.Test.YtjlamhilnkadcaaGreatDoorPayU
namespace Go.Proofs.YtjlamhilnkadcaaGreatDoor.Pay
open Go Go.RowKit
set_option linter.unusedSimpArgs false
set_option linter.unusedVariables false

theorem upon_norm {P : Program} {o : Oper} {a : Act} {n n' : Act → World → Prop} {Q Q' : Exit → Act → World → Prop} (hn : ∀ a w, n a w → n' a w) (hp : ∀ c a w, ¬ Q (.panic c) a w) (ho : ¬ LetsOut Q)
    {r : Result Next} (h : o.upon P a n Q r) : o.upon P a n' Q' r := by
  unfold Oper.upon at h ⊢
  split at h
  · exact hn _ _ h
  · exact hn _ _ h
  · exact hn _ _ h
  · exact h.mono fun e w hw => by
      cases e with
      | returned v => exact hn _ _ hw
      | panicked c => exact (hp _ _ _ hw).elim
      | outgrown => exact (ho hw).elim
  · exact h.mono fun v w hw => hn _ _ hw
  · exact (hp _ _ _ h).elim
  · exact h.elim

theorem updS_nil : ∀ {i : Nat} {S : List Ob}, updS [] i S = S
  | _, [] => rfl
  | i, o :: r => by simp [updS, getO, updS_nil]

theorem getO_wrEv {s1 : St} : ∀ {wr : List Nat} {i : Nat}, getO (wrEv s1 wr) i = if i ∈ wr then some ((s1.S[i]?).getD .gone) else none
  | [], i => by simp [wrEv, getO]
  | j :: r, i => by
    simp only [wrEv, getO]
    by_cases h : j = i
    · subst h; simp
    · rw [if_neg h, getO_wrEv]; simp [Ne.symm h]

theorem setS_eq {s : St} {d : Option Nat} {x : FV} (hd : ∀ d', d = some d' → d' < s.nt) : setS s d x = some { s with env := putE d x s.env } := by
  unfold setS
  cases d with
  | none => rfl
  | some d => simp only; rw [if_pos (hd d rfl)]; rfl

section
variable {P : Program} {T : Nat → Option TI} {w w' : World} {I I' : Nat → Prop} {L L' : List Lay} {s s' s1 s2 : St} {a : Act} {all ops : Array Oper} {o : Oper} {rest : List Oper} {Q : Exit → St → Prop} {c : Code} {md : Region.Mode}

/-- What carrying out an operation comes to, whatever follows. -/
def Do1 (P : Program) (all : Array Oper) (o : Oper) (s s' : St) : Prop := ∀ w I L a, SR w I L s a → ∀ (K : Act → World → Prop) (Q : Exit → Act → World → Prop),
  (∀ a' w' I' L', SR w' I' L' s' a' → Step w I L s w' I' L' s' → K a' w') → if Region.wanted o (yielded all a.tmps) = true then o.wp P a w K Q ∨ (o.asks P a w ∧ LetsOut Q) else K (a.put o.dst undef) w

theorem Do1.of_wpo (h : WpO P all [o] s (fun e s1 => e = .normal ∧ s1 = s')) : Do1 P all o s s' := fun w I L a hs K Q hK => by
  have h0 := h w I L a hs
  have hno : ¬ LetsOut (Post w I L s fun e s1 => e = .normal ∧ s1 = s') := fun ⟨_, _, s1, I1, L1, ⟨he, _⟩, _⟩ => by cases he
  have hn : ∀ a' w', wpList P all (Post w I L s fun e s1 => e = .normal ∧ s1 = s') [] a' w' → K a' w' := fun a' w' h' => by
    obtain ⟨s1, I1, L1, ⟨_, rfl⟩, r, t⟩ := h'
    exact hK _ _ _ _ r t
  unfold wpList at h0
  split
  · rename_i hw
    rw [if_pos hw] at h0
    rcases h0 with h0 | ⟨_, h0⟩
    · exact .inl (upon_norm hn (fun c a w ⟨s1, I1, L1, ⟨he, _⟩, _⟩ => by cases he) hno h0)
    · exact absurd h0 hno
  · rename_i hw
    rw [if_neg hw] at h0
    exact hn _ _ h0

theorem Do1.of_op (hw : wantS all s o = some true) (ho : OpOk P o s s') : Do1 P all o s s' := Do1.of_wpo (WpO.step hw ho (WpO.nil ⟨rfl, rfl⟩))
theorem Do1.gh (h : Do1 P all o s s1) (g : Gh s1 s') : Do1 P all o s s' := fun w I L a hs K Q hK => h w I L a hs K Q fun a' w' I' L' h1 h2 => by
  obtain ⟨I2, L2, r, t⟩ := g w' I' L' a' h1
  exact hK a' w' I2 L2 r (h2.trans t)
/-- The state at hand may be looked at first. -/
theorem Do1.of_sr (h : ∀ w I L a, SR w I L s a → Do1 P all o s s') : Do1 P all o s s' := fun w I L a hs => h w I L a hs w I L a hs

theorem updS_set {m : List (Nat × Ob)} {nid : Nat} {ob : Ob} {S : List Ob} (hlt : nid < S.length) : (updS m 0 S).set nid ob = updS ((nid, ob) :: m) 0 S := by
  apply List.ext_getElem?
  intro j
  rw [updS_get, Nat.zero_add]
  by_cases h : nid = j
  · subst h
    rw [List.getElem?_set_self (by rw [updS_len]; exact hlt), List.getElem?_eq_getElem hlt]
    simp [getO]
  · rw [List.getElem?_set_ne h, updS_get, Nat.zero_add]
    simp [getO, h]

theorem bakS_upd {wr : List Nat} {S : List Ob} (hlen : s1.S.length = S.length) : bakS wr 0 S s1.S = updS (wrEv s1 wr) 0 S := by
  apply List.ext_getElem?
  intro j
  rw [bakS_get (by omega), updS_get, Nat.zero_add, getO_wrEv]
  by_cases hj : j < S.length
  · by_cases hw : j ∈ wr
    · rw [if_neg (by simp [hw]), List.getElem?_eq_getElem hj, List.getElem?_eq_getElem (by omega)]
      simp [hw]
    · rw [if_pos ⟨hj, hw⟩]
      simp [hw]
  · rw [if_neg (by simp [hj]), List.getElem?_eq_none (by omega), List.getElem?_eq_none (by omega)]
    rfl
theorem bakS_upd1 {wr : List Nat} {S : List Ob} {ob : Ob} (hlen : s1.S.length = S.length + 1) (hob : s1.S[S.length]? = some ob) : bakS wr 0 S s1.S = updS (wrEv s1 wr) 0 S ++ [ob] := by
  apply List.ext_getElem?
  intro j
  rw [bakS_get (by omega), Nat.zero_add]
  by_cases hj : j < S.length
  · rw [List.getElem?_append_left (by rw [updS_len]; exact hj), updS_get, Nat.zero_add, getO_wrEv]
    by_cases hw : j ∈ wr
    · rw [if_neg (by simp [hw]), List.getElem?_eq_getElem hj, List.getElem?_eq_getElem (by omega)]
      simp [hw]
    · rw [if_pos ⟨hj, hw⟩]
      simp [hw]
  · rw [if_neg (by simp [hj]), List.getElem?_append_right (by rw [updS_len]; omega), updS_len]
    by_cases hj2 : j = S.length
    · subst hj2; simp [hob]
    · rw [List.getElem?_eq_none (by omega), List.getElem?_eq_none (by simp; omega)]

theorem zip_get {σ : Nat → Nat} : ∀ {perm : List Nat} {S1 : List Ob} {i : Nat}, perm.length = S1.length → perm.Nodup → getO (perm.zip (renOs σ S1)) i = if h : i ∈ perm then (S1[perm.idxOf i]?).map (renO σ) else none
  | [], _, i, _, _ => by simp [getO]
  | j :: p, [], i, h, _ => by simp at h
  | j :: p, ob :: r, i, h, hn => by
    simp only [renOs, List.zip_cons_cons, getO]
    by_cases hj : j = i
    · subst hj; simp
    · have hn' := (List.nodup_cons.1 hn).2
      rw [if_neg hj, zip_get (by simpa using h) hn']
      by_cases hm : i ∈ p
      · rw [dif_pos hm, dif_pos (by simp [hm]), show (j :: p).idxOf i = p.idxOf i + 1 from by simp [List.idxOf_cons, cond_eq_ite, hj]]; simp
      · rw [dif_neg hm, dif_neg (by simp [hm, Ne.symm hj])]

theorem setAll_upd {perm : List Nat} {S1 : List Ob} {σ : Nat → Nat} {S : List Ob} (hl : perm.length = S1.length) (hn : perm.Nodup) (hlt : ∀ i ∈ perm, i < S.length) : setAll S perm (renOs σ S1) = updS (perm.zip (renOs σ S1)) 0 S := by
  apply List.ext_getElem?
  intro j
  rw [updS_get, Nat.zero_add, zip_get hl hn]
  by_cases hj : j ∈ perm
  · have h1 := List.idxOf_lt_length_of_mem hj
    rw [dif_pos hj]
    have h2 : perm[perm.idxOf j]? = some j := by rw [List.getElem?_eq_getElem h1, List.getElem_idxOf]
    rw [setAll_at perm S (renOs σ S1) (perm.idxOf j) j (renO σ (S1[perm.idxOf j]'(hl ▸ h1))) hn h2 (by rw [renOs_get, List.getElem?_eq_getElem (hl ▸ h1)]; rfl) (hlt j hj)]
    rw [List.getElem?_eq_getElem (hlt j hj), List.getElem?_eq_getElem (hl ▸ h1)]
    rfl
  · rw [dif_neg hj, setAll_other _ _ _ _ hj]
    cases S[j]? <;> rfl

theorem msk_evX {ops : Op} {rd : List Nat} {x : Operand} (hx : x ∈ ops.operands.toList) : evX (msk s (opTmps ops) rd) x = evX s x := by
  cases x with
  | tmp t =>
    simp only [evX, msk]
    have hm : t ∈ opTmps ops := mem_tmpsOf hx
    generalize opTmps ops = ts at hm
    induction ts with
    | nil => simp at hm
    | cons k r ih =>
      unfold mskE
      by_cases hk : k = t
      · subst hk
        cases hg : get s.env k with
        | some y => simp [get]
        | none =>
          simp only
          cases hg2 : get (mskE s.env r) k with
          | none => rfl
          | some y => rw [mskE_get hg2] at hg; cases hg
      · rcases List.mem_cons.1 hm with h' | h'
        · exact absurd h'.symm hk
        · cases hg : get s.env k with
          | some y => simp only [get]; rw [if_neg hk]; exact ih h'
          | none => exact ih h'
  | _ => rfl

/-- A new row that is written no more. -/
theorem Gh.frzNew {d et k pin nt : Nat} {env : List (Nat × FV)} {S : List Ob} {xs : List D} (he : ∀ t x, get env t = some x → ∀ j ∈ fids x, j < S.length) (hS : ∀ (i : Nat) (ob : Ob), S[i]? = some ob → ∀ j ∈ oids ob, j < S.length) (hp : pin ≤ S.length) :
    Gh ⟨(d, .sl S.length xs.length) :: env, S ++ [.arr et k xs], nt, pin⟩ ⟨(d, .d (.list k xs)) :: env, S, nt, pin⟩ := by
  have g1 := Gh.freeze (s := ⟨(d, .sl S.length xs.length) :: env, S ++ [.arr et k xs], nt, pin⟩) (id := S.length) (e := et) (k := k) (xs := xs) (by simp)
  have hset : (S ++ [Ob.arr et k xs]).set S.length (.frz k xs) = S ++ [.frz k xs] := by
    rw [List.set_append_right _ _ (Nat.le_refl _)]; simp
  simp only [hset] at g1
  have g2 := Gh.view (s := ⟨(d, .sl S.length xs.length) :: env, S ++ [.frz k xs], nt, pin⟩) (t := d) (x := .sl S.length xs.length) (y := .d (.list k xs)) (by simp [get]) (by simp [viewF])
  have hσ : ∀ j, j < S.length → σ0 (S ++ [Ob.frz k xs]).length (List.range S.length) j = j := by
    intro j hj
    simp [σ0, List.getD, List.getElem?_range hj]
  have g3 := Gh.renum (s := ⟨(d, .d (.list k xs)) :: (d, .sl S.length xs.length) :: env, S ++ [.frz k xs], nt, pin⟩) (List.range S.length) List.nodup_range (by simp; omega) (env := (d, .d (.list k xs)) :: env) (S := S) (by
    intro t x hx
    simp only [get] at hx ⊢
    by_cases hd : d = t
    · rw [if_pos hd] at hx ⊢; cases hx; rfl
    · rw [if_neg hd] at hx
      rw [if_neg hd, if_neg hd, ren_id fun j hj => hσ j (he t x hx j hj)]; exact hx) ⟨by simp, by
    intro j i c hj hc
    have hjl : j < S.length := by simpa using (List.getElem?_eq_some_iff.1 hj).1
    rw [List.getElem?_range hjl] at hj
    cases hj
    rw [renO_id fun m hm => hσ m (hS j c hc m hm)]
    show (S ++ [Ob.frz k xs])[j]? = some c
    rw [List.getElem?_append_left hjl]; exact hc⟩ (fun i hi => List.getElem?_range (by have : i < pin := hi; omega))
  exact (g1.trans g2).trans g3

/-- An event is what it says. -/
theorem EvOk.do (hT : TabOk P T) {nid : Nat} {e : Ev} {rd sh : List Nat} (h : EvOk P T all o s nid e rd sh) (hp : s.pin ≤ s.S.length) (hf : (getO e.mods nid).isSome = true → Fresh nid s) : Do1 P all o s (e.app o.dst s) := by
  cases h with
  | skip h hd =>
    refine Do1.of_wpo (WpO.skip h (s' := _) (setS_eq hd) (WpO.nil ⟨rfl, ?_⟩))
    simp [Ev.app, updS_nil]
  | @lit s1 et k d xs h h1 h0 h2 h3 h4 =>
    have hout := evOp_out h1
    have hN : (msk s (opTmps o.op) []).S.length = s.S.length := by simp [msk, mskS_len]
    have hwr : wrIds (msk s (opTmps o.op) []) o.op = [] := by rw [wrIds_congr fun x hx => msk_evX hx]; exact h0
    have hlt : s.S.length < s1.S.length := (List.getElem?_eq_some_iff.1 h2).1
    have hfr := OpOk.frame (wr := []) (v := .sl s.S.length xs.length) (evOp_ok hT h1) hp (by omega) hout.nt (fun i hi _ => hout.keep i (by rw [hN]; exact hi) (by rw [hwr]; simp))
      (fun d' hd' => by rw [h3] at hd'; cases hd'; exact ⟨h4, (hout.dst d h3).2⟩)
    have hl : s1.S.length = s.S.length + 1 := by rcases hout.len with h' | h' <;> rw [hN] at h' <;> omega
    rw [bakS_upd1 hl h2, show wrEv s1 [] = [] from rfl, updS_nil] at hfr
    refine Do1.of_sr fun w I L a hs => Do1.gh (Do1.of_op h hfr) ?_
    obtain ⟨ids1, ids2⟩ := hs.ids
    have hg := Gh.frzNew (d := d) (et := et) (k := k) (nt := s.nt) (xs := xs) ids1 ids2 hp
    simp only [Ev.app, h3, putE, updS_nil]
    exact hg
  | sh h h0 h1 hd =>
    refine Do1.of_op h (OpOk.val hT h1 ?_)
    rw [setS_eq hd]; simp [Ev.app, updS_nil]
  | eqs h ho h1 h2 hE hd =>
    refine Do1.of_wpo (WpO.eqS _ h ho h1 h2 hE (setS_eq hd) (WpO.nil ⟨rfl, ?_⟩))
    simp [Ev.app, updS_nil]
  | @lend fx args ts g caps xs cargs v h ho hfx hxs hv hc hcall hfl hd =>
    refine Do1.of_wpo (WpO.callL h ho hfx hxs hv hc hcall fun r S1 hr => ?_)
    subst hr
    exact ⟨hfl, _, setS_eq hd, WpO.nil ⟨rfl, by simp [Ev.app, updS_nil]⟩⟩
  | @op s1 h h1 h2 =>
    have hout := evOp_out h1
    have hN : (msk s (opTmps o.op) (rdIds s o.op)).S.length = s.S.length := by simp [msk, mskS_len]
    have hnt : s1.nt = s.nt := hout.nt
    have hx : ∀ x ∈ o.op.operands.toList, evX (msk s (opTmps o.op) (rdIds s o.op)) x = evX s x := fun x hx => msk_evX hx
    have hwr : wrIds (msk s (opTmps o.op) (rdIds s o.op)) o.op = wrIds s o.op := wrIds_congr hx
    obtain ⟨v, hv⟩ : ∃ v, v = gotE o.dst s1.env := ⟨_, rfl⟩
    have hdst : ∀ d, o.dst = some d → get s1.env d = some v ∧ d < s.nt := fun d hd => by
      obtain ⟨⟨u, hu⟩, hlt⟩ := hout.dst d hd
      refine ⟨?_, hlt⟩
      rw [hv, hd]; simp [gotE, hu]
    have hfr := OpOk.frame (wr := wrIds s o.op) (evOp_ok hT h1) hp (by rcases hout.len with h' | h' <;> rw [h', hN] <;> omega) hnt
      (fun i hi hiw => hout.keep i (by rw [hN]; exact hi) (by rw [hwr]; exact hiw)) hdst
    unfold newOk at h2
    simp only [← hv] at h2
    rcases hout.len with hl | hl
    · rw [hN] at hl
      have hnone : s1.S[s.S.length]? = none := List.getElem?_eq_none (by omega)
      rw [hnone] at h2
      simp only [List.all_eq_true, decide_eq_true_eq] at h2
      refine Do1.of_op h ?_
      have he : (mkEv o.dst s.S.length nid (wrIds s o.op) s1).app o.dst s = ⟨putE o.dst (v) s.env, bakS (wrIds s o.op) 0 s.S s1.S, s.nt, s.pin⟩ := by
        unfold mkEv Ev.app
        rw [bakS_upd hl, hnone, ← hv, ren_id (x := v) fun j hj => by have := h2 j hj; unfold mvN; rw [if_neg (by omega)]]
        rfl
      rw [he]; exact hfr
    · rw [hN] at hl
      obtain ⟨ob, hob⟩ : ∃ ob, s1.S[s.S.length]? = some ob := ⟨_, List.getElem?_eq_getElem (by omega)⟩
      rw [hob] at h2
      simp only [Bool.and_eq_true, List.all_eq_true, decide_eq_true_eq] at h2
      obtain ⟨⟨h2a, h2b⟩, h2c⟩ := h2
      have hF : Fresh nid s := hf (by simp [mkEv, hob, getO])
      have hlt : nid < s.S.length := (List.getElem?_eq_some_iff.1 hF.gone).1
      refine Do1.of_sr fun w I L a hs => Do1.gh (Do1.of_op h hfr) ?_
      obtain ⟨ids1, ids2⟩ := hs.ids
      rw [bakS_upd1 hl hob]
      have hul : (updS (wrEv s1 (wrIds s o.op)) 0 s.S).length = s.S.length := updS_len
      have hobs : ∀ (i : Nat) (ob : Ob), (updS (wrEv s1 (wrIds s o.op)) 0 s.S)[i]? = some ob → ∀ j ∈ oids ob, j < (updS (wrEv s1 (wrIds s o.op)) 0 s.S).length ∧ j ≠ nid := by
        intro i ob' hi j hj
        rw [hul]
        rw [updS_get, Nat.zero_add, getO_wrEv, Option.map_eq_some_iff] at hi
        obtain ⟨ob0, hob0, hi⟩ := hi
        by_cases hw : i ∈ wrIds s o.op
        · rw [if_pos hw] at hi
          simp only [Option.getD_some] at hi
          subst hi
          exact (h2c i hw).2 j hj
        · rw [if_neg hw] at hi
          simp only [Option.getD_none] at hi
          subst hi
          exact ⟨ids2 i _ hob0 j hj, fun e => hF.obs i _ hob0 (e ▸ hj)⟩
      have hfill := Gh.fill (d := o.dst) (env := s.env) (S := updS (wrEv s1 (wrIds s o.op)) 0 s.S) (nt := s.nt) (pin := s.pin) (nid := nid) (v := v) (ob := ob)
        (by
          rw [updS_get, Nat.zero_add, getO_wrEv, hF.gone]
          have : nid ∉ wrIds s o.op := fun h' => (h2c nid h').1 rfl
          simp [this])
        hF.pin (fun t x hx j hj => ⟨by rw [hul]; exact ids1 t x hx j hj, fun e => hF.env t x hx (e ▸ hj)⟩) hobs (fun j hj => by rw [hul]; exact h2b j hj) (fun j hj => by rw [hul]; exact h2a j hj)
      rw [hul, updS_set hlt] at hfill
      have he : (mkEv o.dst s.S.length nid (wrIds s o.op) s1).app o.dst s = ⟨putE o.dst (ren (mvN s.S.length nid) v) s.env, updS ((nid, ob) :: wrEv s1 (wrIds s o.op)) 0 s.S, s.nt, s.pin⟩ := by
        unfold mkEv Ev.app
        rw [hob, ← hv]
        rfl
      rw [he]; exact hfill
  | @call fx args ts g caps xs cargs cS perm r0 S0 h ho hfx hxs hc hnd ha hpass hcall hb hd =>
    unfold callOkB at hb
    simp only [Bool.and_eq_true, List.all_eq_true, decide_eq_true_eq] at hb
    obtain ⟨⟨⟨⟨b1, b2⟩, b3⟩, b4⟩, b5⟩ := hb
    have hpl : ∀ i ∈ perm, i < s.S.length := fun i hi => (b3 i hi).1
    have hcall' := WpO.call h ho hfx hxs hc hp perm hnd hpl ha hpass hcall (rest := []) (all := all)
      (Q := fun e s1 => e = .normal ∧ s1 = ⟨putE o.dst (ren (σ1 s.S.length perm) r0) s.env, setAll s.S perm (renOs (σ1 s.S.length perm) (S0.take perm.length)) ++ renOs (σ1 s.S.length perm) (S0.drop perm.length), s.nt, s.pin⟩)
      (fun r S1 ⟨hr, hS⟩ => ⟨_, setS_eq hd, by subst hr; subst hS; exact WpO.nil ⟨rfl, rfl⟩⟩)
    have htl : perm.length = (S0.take perm.length).length := by rw [List.length_take]; omega
    rw [setAll_upd htl hnd hpl] at hcall'
    have hmemr : ∀ ob ∈ S0, renO (σ1 s.S.length perm) ob ∈ renOs (σ1 s.S.length perm) S0 := by
      intro ob' h'
      obtain ⟨i, hi⟩ := List.getElem?_of_mem h'
      exact List.mem_of_getElem? (by rw [renOs_get, hi]; rfl)
    have hτ : ∀ ob, renO (τ1 s.S.length nid perm) ob = renO (mvN s.S.length nid) (renO (σ1 s.S.length perm) ob) := fun ob => by rw [renO_renO]; rfl
    by_cases hS0 : S0.length = perm.length
    · have hdr : S0.drop perm.length = [] := List.drop_eq_nil_of_le (by omega)
      rw [if_pos hS0] at b4 b5
      rw [hdr] at hcall'
      simp only [renOs, List.append_nil] at hcall'
      refine Do1.of_wpo ?_
      have hrs : renOs (τ1 s.S.length nid perm) (S0.take perm.length) = renOs (σ1 s.S.length perm) (S0.take perm.length) := by
        apply List.ext_getElem?
        intro i
        rw [renOs_get, renOs_get]
        cases hx : (S0.take perm.length)[i]? with
        | none => rfl
        | some ob =>
          have hm := hmemr ob (List.mem_of_mem_take (List.mem_of_getElem? hx))
          rw [Option.map_some, Option.map_some, hτ, renO_id fun j hj => by have := b5 _ hm j hj; unfold mvN; rw [if_neg (by omega)]]
      have he : Ev.app ⟨ren (mvN s.S.length nid) (ren (σ1 s.S.length perm) r0), callS s.S.length nid perm S0⟩ o.dst s =
          ⟨putE o.dst (ren (σ1 s.S.length perm) r0) s.env, updS (perm.zip (renOs (σ1 s.S.length perm) (S0.take perm.length))) 0 s.S, s.nt, s.pin⟩ := by
        unfold Ev.app callS
        rw [hdr, ren_id (x := ren (σ1 s.S.length perm) r0) fun j hj => by have := b4 j hj; unfold mvN; rw [if_neg (by omega)], hrs]
        rfl
      rw [he]; exact hcall'
    · rw [if_neg hS0] at b4 b5
      obtain ⟨ob, hob⟩ : ∃ ob, S0.drop perm.length = [ob] := by
        have : (S0.drop perm.length).length = 1 := by rw [List.length_drop]; omega
        exact List.length_eq_one_iff.1 this
      rw [hob] at hcall'
      simp only [renOs] at hcall'
      have hmem : ob ∈ S0 := List.mem_of_mem_drop (by rw [hob]; simp)
      have hF : Fresh nid s := hf (by simp [callS, hob, getO])
      have hlt : nid < s.S.length := (List.getElem?_eq_some_iff.1 hF.gone).1
      refine Do1.of_sr fun w I L a hs => Do1.gh (Do1.of_wpo hcall') ?_
      obtain ⟨ids1, ids2⟩ := hs.ids
      have hul : ∀ m : List (Nat × Ob), (updS m 0 s.S).length = s.S.length := fun m => updS_len
      have key : ∀ σ : Nat → Nat, (∀ j, j < s.S.length → j ≠ nid → σ j = j) → σ nid = s.S.length → ∀ ob' ∈ S0, renO σ (renO (τ1 s.S.length nid perm) ob') = renO (σ1 s.S.length perm) ob' := fun σ h1 h2 ob' hm => by
        rw [hτ, renO_renO, renO_id fun j hj => ?_]
        obtain ⟨g1, g2⟩ := b5 _ (hmemr ob' hm) j hj
        unfold mvN
        split
        · rename_i e; rw [h2, e]
        · exact h1 j (by omega) g2
      have hfill := Gh.fill2 (d := o.dst) (env := s.env) (S := updS (perm.zip (renOs (σ1 s.S.length perm) (S0.take perm.length))) 0 s.S)
        (S2 := updS ((nid, renO (τ1 s.S.length nid perm) ob) :: perm.zip (renOs (τ1 s.S.length nid perm) (S0.take perm.length))) 0 s.S) (nt := s.nt) (pin := s.pin) (nid := nid) (v := ren (σ1 s.S.length perm) r0) (ob := renO (σ1 s.S.length perm) ob)
        (by rw [hul]; exact hlt) hF.pin (fun t x hx j hj => ⟨by rw [hul]; exact ids1 t x hx j hj, fun e => hF.env t x hx (e ▸ hj)⟩) (by rw [hul, hul])
        (fun σ h1 h2 i x hx => by
          rw [hul] at h1 h2
          rw [updS_get, Nat.zero_add, Option.map_eq_some_iff] at hx
          obtain ⟨ob0, hob0, hx⟩ := hx
          simp only [getO] at hx
          by_cases hn : i = nid
          · subst hn
            rw [if_pos rfl, Option.getD_some] at hx
            subst hx
            rw [if_pos rfl, key σ h1 h2 ob hmem]
            simp
          · rw [if_neg (Ne.symm hn), zip_get htl hnd] at hx
            have hil := (List.getElem?_eq_some_iff.1 hob0).1
            rw [if_neg hn, List.getElem?_append_left (by rw [hul]; exact hil), updS_get, Nat.zero_add, zip_get htl hnd, hob0]
            by_cases hw : i ∈ perm
            · rw [dif_pos hw] at hx ⊢
              have hlt' := List.idxOf_lt_length_of_mem hw
              rw [List.getElem?_eq_getElem (htl ▸ hlt')] at hx ⊢
              simp only [Option.map_some, Option.getD_some] at hx ⊢
              subst hx
              rw [key σ h1 h2 _ (List.mem_of_mem_take (List.getElem_mem _))]
            · rw [dif_neg hw] at hx ⊢
              simp only [Option.getD_none, Option.map_some] at hx ⊢
              subst hx
              rw [renO_id fun j hj => h1 j (ids2 i _ hob0 j hj) fun e => hF.obs i _ hob0 (e ▸ hj)])
        (fun j hj => by rw [hul]; have := b4 j hj; exact ⟨by omega, this.2⟩)
      rw [hul] at hfill
      have he : Ev.app ⟨ren (mvN s.S.length nid) (ren (σ1 s.S.length perm) r0), callS s.S.length nid perm S0⟩ o.dst s =
          ⟨putE o.dst (ren (mvN s.S.length nid) (ren (σ1 s.S.length perm) r0)) s.env, updS ((nid, renO (τ1 s.S.length nid perm) ob) :: perm.zip (renOs (τ1 s.S.length nid perm) (S0.take perm.length))) 0 s.S, s.nt, s.pin⟩ := by
        unfold Ev.app callS
        rw [hob]
        rfl
      rw [he]; exact hfill
end
end Go.Proofs.YtjlamhilnkadcaaGreatDoor.Pay
