/- The texts PayF, PayG, PayH, PayI, PayJ, one behind the other. No statement of the seed is proved here. -/
import Derived.Lib.AppendZerosOnto
import Derived.Test.YtaobnhenjldjeaaMgA
/- The rules for operations: those that turn no memory, new variables, stores, appends. No statement of the seed is proved here. -/
namespace Go.Proofs.Ytaobnhenjldjeaa.Pay
open Go Go.RowKit
set_option linter.unusedVariables false
set_option linter.unusedSimpArgs false

section
variable {P : Program} {T : Nat → Option TI} {w : World} {I : Nat → Prop} {L : List Lay} {s : St} {a : Act}

theorem guard_ok {op : BinOp} {t : TypeId} {ox oy : Operand} {x y : FV} {vx vy : Value} {z : D} (hx : VRel w I L x vx) (hy : VRel w I L y vy) (h : evBin T op t x y = some z)
    (hn : (∃ c, ox = .const c) ∨ (∃ c, oy = .const c) ∨ ¬ (x = .d .nili ∧ y = .d .nili)) : eqGuard op t ox oy vx vy = pure () := by
  unfold evBin at h
  split at h
  · simp only [VRel, DRel] at hx; subst hx; exact eqGuard_at_int ..
  · simp only [VRel, DRel] at hx; subst hx; exact eqGuard_at_string ..
  · simp only [VRel, DRel] at hx; subst hx; exact eqGuard_at_float ..
  · simp only [VRel, DRel] at hx; subst hx; exact eqGuard_at_complex ..
  · simp only [VRel, DRel] at hx; subst hx; exact eqGuard_at_bool ..
  · simp only [VRel, DRel] at hx; obtain ⟨_, _, rfl⟩ := hx; exact eqGuard_at_iface ..
  · simp only [VRel, DRel] at hx hy
    subst hx; subst hy
    rcases hn with ⟨c, rfl⟩ | ⟨c, rfl⟩ | hn
    · exact eqGuard_nil_constL ..
    · exact eqGuard_nil_constR ..
    · exact absurd ⟨rfl, rfl⟩ hn
  · simp only [VRel] at hx; obtain ⟨_, _, rfl⟩ := hx; exact eqGuard_at_pointer ..
  · cases h

theorem evA_all (hT : TabOk P T) (hs : SR w I L s a) {o : Oper} {z : FV} (h : evA T s o.op = some z) : ∃ v, (∀ w' : World, Agree w w' I (owns s.S L) → (execOp a.eval o).run P w' = .ok (.value v) w') ∧ VRel w I L z v := by
  unfold execOp
  unfold evA at h
  split at h
  · rename_i x he; exact ⟨a.eval x, fun w' hg => by simp [he], hs.evX h⟩
  · rename_i x he; exact ⟨a.eval x, fun w' hg => by simp [he], hs.evX h⟩
  · rename_i c x y he
    simp only [Option.bind_eq_some_iff] at h
    obtain ⟨vc, hc, vx, hx, vy, hy, h⟩ := h
    split at h
    · rename_i t dx dy
      cases h
      have h1 := hs.evX hc; have h2 := hs.evX hx; have h3 := hs.evX hy
      simp only [VRel, DRel] at h1 h2 h3
      refine ⟨if t = true then a.eval x else a.eval y, fun w' hg => ?_, ?_⟩
      · simp [he, h1, asBool]
      · cases t
        · simpa only [VRel, Bool.false_eq_true, if_false] using h3
        · simpa only [VRel, if_true] using h2
    · rename_i t dx
      have h1 := hs.evX hc; have h2 := hs.evX hx
      simp only [VRel, DRel] at h1 h2
      split at h
      · rename_i ht
        cases h
        exact ⟨a.eval x, fun w' hg => by simp [he, h1, asBool, ht], by simpa only [VRel] using h2⟩
      · cases h
    · rename_i t dy
      have h1 := hs.evX hc; have h3 := hs.evX hy
      simp only [VRel, DRel] at h1 h3
      split at h
      · cases h
      · rename_i ht
        cases h
        exact ⟨a.eval y, fun w' hg => by simp [he, h1, asBool, ht], by simpa only [VRel] using h3⟩
    · cases h
  · rename_i x he
    simp only [Option.bind_eq_some_iff] at h
    obtain ⟨v, hv, h⟩ := h
    have h1 := hs.evX hv
    split at h
    · cases h; simp only [VRel] at h1; obtain ⟨b, hb, h1⟩ := h1; exact ⟨_, fun w' hg => by simp [he, h1]; rfl, by simp only [VRel]; exact ⟨b, hb, rfl⟩⟩
    · cases h; simp only [VRel] at h1; obtain ⟨b, c, hb, h1⟩ := h1; exact ⟨_, fun w' hg => by simp [he, h1]; rfl, by simp only [VRel]; exact ⟨b, c, hb, rfl⟩⟩
    · cases h; simp only [VRel] at h1; obtain ⟨b, o, vs, h1, r⟩ := h1; exact ⟨_, fun w' hg => by simp [he, h1]; rfl, by simp only [VRel]; exact ⟨b, o, vs, rfl, r⟩⟩
    · cases h; simp only [VRel] at h1; obtain ⟨vs, h1, r⟩ := h1; exact ⟨_, fun w' hg => by simp [he, h1]; rfl, by simp only [VRel]; exact ⟨vs, rfl, r⟩⟩
    · cases h
  · rename_i op t x y ty he
    simp only [Option.bind_eq_some_iff] at h
    obtain ⟨vx, hx, vy, hy, h⟩ := h
    have h1 := hs.evX hx; have h2 := hs.evX hy
    have fin : ∀ z', evBin T op t vx vy = some z' → ((∃ c, x = .const c) ∨ (∃ c, y = .const c) ∨ ¬ (vx = .d .nili ∧ vy = .d .nili)) → z = .d z' →
        ∃ v, (∀ w' : World, Agree w w' I (owns s.S L) → (execOp a.eval o).run P w' = .ok (.value v) w') ∧ VRel w I L z v := by
      intro z' hz hn e
      obtain ⟨v, hv, hd⟩ := evBin_ok hT h1 h2 hz
      subst e
      refine ⟨v, fun w' hg => ?_, by simpa only [VRel] using hd⟩
      unfold execOp
      simp [he, guard_ok h1 h2 hz hn, hv]
    split at h
    · split at h
      · simp only [Option.map_eq_some_iff] at h; obtain ⟨z', hz, rfl⟩ := h
        simpa only [execOp] using fin z' hz (.inl ⟨_, rfl⟩) rfl
      · simp only [Option.map_eq_some_iff] at h; obtain ⟨z', hz, rfl⟩ := h
        simpa only [execOp] using fin z' hz (.inr (.inl ⟨_, rfl⟩)) rfl
      · cases h
    · rename_i hno
      simp only [Option.map_eq_some_iff] at h; obtain ⟨z', hz, rfl⟩ := h
      simpa only [execOp] using fin z' hz (.inr (.inr (fun e => hno e.1 e.2))) rfl
  · rename_i op t x he
    simp only [Option.bind_eq_some_iff] at h
    obtain ⟨v, hv, h⟩ := h
    obtain ⟨u, hu, hz⟩ := evUn_ok (P := P) (hs.evX hv) h
    exact ⟨u, fun w' hg => by simp [he, hu], hz⟩
  · rename_i src dst x he
    simp only [Option.bind_eq_some_iff] at h
    obtain ⟨v, hv, h⟩ := h
    obtain ⟨u, hu, hz⟩ := evCv_ok hT hs (hs.evX hv) h
    exact ⟨u, fun w' hg => by simp [he, hu w' hg], hz⟩
  · rename_i f first caps he
    split at h
    · rename_i h0
      simp only [Option.map_eq_some_iff] at h
      obtain ⟨vs, hv, rfl⟩ := h
      have hf : first = #[] := by simpa using h0
      subst hf
      refine ⟨.func (.func f) #[] (caps.map a.eval), fun w' hg => by simp [he, Instr.makeFunc], ?_⟩
      simp only [VRel]
      refine ⟨caps.toList.map a.eval, ?_, hs.evXs hv⟩
      congr 1
      apply Array.ext'
      simp
    · cases h
  · rename_i t x he
    simp only [Option.bind_eq_some_iff] at h
    obtain ⟨v, hv, i, hi, h⟩ := h
    have hI := (hT _ _ hi).kind
    split at h
    · cases h
    · rename_i hno
      cases h
      refine ⟨.iface t (a.eval x), fun w' hg => ?_, by simp only [VRel, DRel]; exact ⟨_, _, rfl⟩⟩
      have : (Instr.makeInterface t (a.eval x)).run P w' = .ok (.iface t (a.eval x)) w' := by
        cases hk : i.kind <;> rw [hk] at hI <;> simp only [TKOk] at hI
        case iface => exact absurd hk hno
        case struct => obtain ⟨f, hf, _⟩ := hI; simp [Instr.makeInterface, runU hf]
        case other =>
          obtain ⟨d, hd, hn⟩ := hI
          cases d <;> simp_all [Instr.makeInterface, run_underlying hd]
        all_goals simp [Instr.makeInterface, runU hI]
      simp [he, this]
  · rename_i t p he
    simp only [Option.bind_eq_some_iff] at h
    obtain ⟨v, hv, h⟩ := h
    obtain ⟨u, hu, hz⟩ := evLd_ok hT hs (hs.evX hv) h
    exact ⟨u, fun w' hg => by simp [he, hu w' hg], hz⟩
  · rename_i t p f he
    simp only [Option.bind_eq_some_iff] at h
    obtain ⟨v, hv, h⟩ := h
    obtain ⟨u, hu, hz⟩ := evFA_ok hT (hs.evX hv) h
    exact ⟨u, fun w' hg => by simp [he, hu], hz⟩
  · rename_i t x f he
    simp only [Option.bind_eq_some_iff] at h
    obtain ⟨v, hv, h⟩ := h
    obtain ⟨u, hu, hz⟩ := evField_ok hT (hs.evX hv) h
    exact ⟨u, fun w' hg => by simp [he, hu], hz⟩
  · rename_i t x i he
    simp only [Option.bind_eq_some_iff] at h
    obtain ⟨v, hv, j, hj, h⟩ := h
    obtain ⟨u, hu, hz⟩ := evIA_ok hT hs (hs.evX hv) (hs.evX hj) h
    exact ⟨u, fun w' hg => by simp [he, hu], hz⟩
  · rename_i t x i he
    simp only [Option.bind_eq_some_iff] at h
    obtain ⟨v, hv, j, hj, h⟩ := h
    obtain ⟨u, hu, hz⟩ := evIx_ok hT (hs.evX hv) (hs.evX hj) h
    exact ⟨u, fun w' hg => by simp [he, hu], hz⟩
  · rename_i t x lo hi he
    simp only [Option.bind_eq_some_iff] at h
    obtain ⟨v, hv, l, hl, m, hm, h⟩ := h
    obtain ⟨u, hu, hz⟩ := evSl_ok hT hs (hs.evX hv) (hs.evOpt hl) (hs.evOpt hm) h
    exact ⟨u, fun w' hg => by simp [he, hu], hz⟩
  · rename_i x i he
    simp only [Option.bind_eq_some_iff] at h
    obtain ⟨v, hv, h⟩ := h
    have h1 := hs.evX hv
    split at h
    · rename_i vs
      simp only [VRel] at h1
      obtain ⟨us, h1, hr⟩ := h1
      obtain ⟨u, hu, hz⟩ := hr.get i z h
      exact ⟨u, fun w' hg => by simp [he, Instr.extract, h1, hu], hz⟩
    · cases h
  · rename_i b args ts he
    simp only [Option.bind_eq_some_iff] at h
    obtain ⟨vs, hv, h⟩ := h
    obtain ⟨u, hu, hz⟩ := evBu_ok (P := P) hT (ty := o.type) (cs := args.map fun | .const _ => true | _ => false) (hs.evXs hv) h
    refine ⟨u, fun w' hg => ?_, hz⟩
    simp only [he, resolve, Sem.run_bind, Sem.run_pure, Result.andThen_ok, invoke]
    rw [← hu w']
    congr 2
    apply Array.ext'
    simp
  · cases h

theorem evA_ok (hT : TabOk P T) (hs : SR w I L s a) {o : Oper} {z : FV} (h : evA T s o.op = some z) : ∃ v, (execOp a.eval o).run P w = .ok (.value v) w ∧ VRel w I L z v := by
  obtain ⟨v, h1, h2⟩ := evA_all hT hs h
  exact ⟨v, h1 w fun _ _ => rfl, h2⟩


end

/-! ### The rules -/

def wantS (all : Array Oper) (s : St) (o : Oper) : Option Bool := match o.guard with
  | none => some true
  | some (j, want) => match (all[j]?).bind (·.dst) with
    | none => some false
    | some d => match get s.env d with
      | some (.d (.bool b)) => some (b == want)
      | some (.tup []) => some false
      | _ => none

def setS (s : St) (dst : Option Nat) (x : FV) : Option St := match dst with
  | none => some s
  | some d => if d < s.nt then some { s with env := (d, x) :: s.env } else none

section
variable {P : Program} {T : Nat → Option TI} {all : Array Oper} {o : Oper} {rest : List Oper} {s s' : St} {Q : Exit → St → Prop}

theorem SR.want {w : World} {I : Nat → Prop} {L : List Lay} {a : Act} (hs : SR w I L s a) {b : Bool} (h : wantS all s o = some b) : Region.wanted o (yielded all a.tmps) = b := by
  unfold wantS at h
  unfold Region.wanted
  cases hg : o.guard with
  | none => simp [hg] at h; simpa using h
  | some p =>
    obtain ⟨j, want⟩ := p
    simp only [hg] at h
    simp only [yielded]
    cases hd : (all[j]?).bind (·.dst) with
    | none => simp [hd] at h; subst h; simp
    | some d =>
      simp only [hd] at h
      simp only [Option.bind_some]
      split at h
      · rename_i c hc
        have := hs.env _ _ hc
        simp only [VRel, DRel] at this
        cases h
        have hlt : a.tmps[d]? = some (.bool c) := by
          cases hq : a.tmps[d]? with
          | none => simp [Array.getD_eq_getD_getElem?, hq, undef] at this
          | some v => simp [Array.getD_eq_getD_getElem?, hq] at this; rw [this]
        simp [hlt]
      · rename_i hc
        have := hs.env _ _ hc
        simp only [VRel, VRelL] at this
        obtain ⟨vs, hv, rfl⟩ := this
        cases h
        cases hq : a.tmps[d]? with
        | none => simp
        | some v => simp [Array.getD_eq_getD_getElem?, hq] at hv; subst hv; simp
      · cases h

theorem SR.put {w : World} {I : Nat → Prop} {L : List Lay} {a : Act} (hs : SR w I L s a) {dst : Option Nat} {x : FV} {v : Value} (hx : VRel w I L x v) (h : setS s dst x = some s') :
    SR w I L s' (a.put dst v) ∧ s'.S = s.S ∧ s'.pin = s.pin := by
  unfold setS at h
  cases dst with
  | none => cases h; exact ⟨hs, rfl, rfl⟩
  | some d =>
    simp only at h
    split at h
    · rename_i hd
      cases h
      refine ⟨⟨fun t y hy => ?_, ?_, hs.len, hs.obs, hs.nodup, hs.sep, hs.imm, hs.defers⟩, rfl, rfl⟩
      · simp only [get] at hy
        by_cases hdt : d = t
        · rw [if_pos hdt] at hy
          cases hy
          subst hdt
          simp only [Act.put, Array.getD_eq_getD_getElem?, Array.getElem?_setIfInBounds, if_true]
          rw [if_pos (by rw [hs.nt]; exact hd)]
          exact hx
        · rw [if_neg hdt] at hy
          simp only [Act.put, Array.getD_eq_getD_getElem?, Array.getElem?_setIfInBounds, if_neg hdt]
          simpa only [Array.getD_eq_getD_getElem?] using hs.env t y hy
      · simp [Act.put, hs.nt]
    · cases h

theorem WpO.nil (h : Q .normal s) : WpO P all [] s Q := fun _ _ _ _ hs => post_here hs h

theorem WpC.region {id : Nat} {ops : Array Oper} (h : WpO P ops ops.toList s Q) : WpC P (.region id ops false) s Q := fun w I L a hs => wp_region_list (h w I L a hs)

/-- An operation that is not wanted. -/
theorem WpO.skip (hw : wantS all s o = some false) (hset : setS s o.dst (.tup []) = some s') (h : WpO P all rest s' Q) : WpO P all (o :: rest) s Q := fun w I L a hs => by
  unfold wpList
  rw [if_neg (by rw [hs.want hw]; simp)]
  have hx : VRel w I L (.tup []) undef := by simp only [VRel, VRelL]; exact ⟨[], rfl, rfl⟩
  obtain ⟨h1, h2, h3⟩ := hs.put hx hset
  refine wpList_mono (fun e a' w' p => p.from ⟨?_, h3, fun _ _ => rfl⟩) _ _ _ (h w I L _ h1)
  rw [h2]; exact Evo.refl _ _ _

/-- What an operation does, in one word. -/
def OpOk (P : Program) (o : Oper) (s s' : St) : Prop :=
  ∀ w I L a, SR w I L s a → ∃ r w' I' L' v, (execOp a.eval o).run P w = .ok r w' ∧ (r = .value v ∨ r = .skip ∧ v = undef) ∧ SR w' I' L' s' (a.put o.dst v) ∧ Step w I L s w' I' L' s'

theorem WpO.step (hw : wantS all s o = some true) (ho : OpOk P o s s') (h : WpO P all rest s' Q) : WpO P all (o :: rest) s Q := fun w I L a hs => by
  unfold wpList
  rw [if_pos (hs.want hw)]
  obtain ⟨r, w', I', L', v, hr, hv, h1, h2⟩ := ho w I L a hs
  refine .inl ?_
  unfold Oper.wp
  rw [hr]
  have := wpList_mono (fun e a' w' p => Post.from h2 p) _ _ _ (h w' I' L' _ h1)
  rcases hv with rfl | ⟨rfl, rfl⟩ <;> exact this

theorem OpOk.val (hT : TabOk P T) {x : FV} (hx : evA T s o.op = some x) (hset : setS s o.dst x = some s') : OpOk P o s s' := fun w I L a hs => by
  obtain ⟨v, hv, hz⟩ := evA_ok hT hs hx
  obtain ⟨h1, h2, h3⟩ := hs.put hz hset
  refine ⟨_, w, I, L, v, hv, .inl rfl, h1, ⟨?_, h3, fun _ _ => rfl⟩⟩
  rw [h2]; exact Evo.refl _ _ _

end
end Go.Proofs.Ytaobnhenjldjeaa.Pay
/- Operations that lay or write memory: variables, stores, makes, literals, appends. No statement of the seed is proved here. -/
namespace Go.Proofs.Ytaobnhenjldjeaa.Pay
open Go Go.RowKit
set_option linter.unusedVariables false
set_option linter.unusedSimpArgs false

/-! ### The blocks that objects own -/

theorem owns_append : ∀ (S : List Ob) (L : List Lay) (o : Ob) (l : Lay), S.length = L.length → owns (S ++ [o]) (L ++ [l]) = owns S L ++ own o l
  | [], [], o, l, _ => by simp [owns]
  | x :: S, y :: L, o, l, h => by
    simp only [List.cons_append, owns, List.append_assoc]
    rw [owns_append S L o l (by simpa using h)]
  | [], _ :: _, _, _, h => by simp at h
  | _ :: _, [], _, _, h => by simp at h

theorem owns_apart : ∀ {S : List Ob} {L : List Lay} {i j : Nat} {o o' : Ob} {l l' : Lay}, (owns S L).Nodup → S[i]? = some o → L[i]? = some l → S[j]? = some o' → L[j]? = some l' → i ≠ j → ∀ b ∈ own o l, b ∉ own o' l'
  | [], _, i, j, o, o', l, l', _, h, _, _, _, _ => by simp at h
  | x :: S, [], i, j, o, o', l, l', _, _, h, _, _, _ => by simp at h
  | x :: S, y :: L, i, j, o, o', l, l', hn, h1, h2, h3, h4, hij => by
    intro b hb hb'
    simp only [owns, List.nodup_append] at hn
    obtain ⟨_, hn2, hn3⟩ := hn
    cases i with
    | zero =>
      cases j with
      | zero => exact hij rfl
      | succ j =>
        simp at h1 h2; subst h1; subst h2
        exact hn3 b hb b (owns_mem (by simpa using h3) (by simpa using h4) b hb') rfl
    | succ i =>
      cases j with
      | zero =>
        simp at h3 h4; subst h3; subst h4
        exact hn3 b hb' b (owns_mem (by simpa using h1) (by simpa using h2) b hb) rfl
      | succ j => exact owns_apart hn2 (by simpa using h1) (by simpa using h2) (by simpa using h3) (by simpa using h4) (by omega) b hb hb'

theorem owns_set : ∀ {S : List Ob} {L : List Lay} {i : Nat} {o o' : Ob} {l : Lay}, S[i]? = some o → L[i]? = some l → own o' l = own o l → owns (S.set i o') L = owns S L
  | [], _, i, o, o', l, h, _, _ => by simp at h
  | x :: S, [], i, o, o', l, _, h, _ => by simp at h
  | x :: S, y :: L, i, o, o', l, h1, h2, h3 => by
    cases i with
    | zero => simp at h1 h2; subst h1; subst h2; simp [owns, h3]
    | succ i => simp only [List.set_cons_succ, owns]; rw [owns_set (by simpa using h1) (by simpa using h2) h3]

/-- An object is given up. -/
theorem owns_drop : ∀ {S : List Ob} {L : List Lay} {i : Nat} {o o' : Ob} {l : Lay}, S[i]? = some o → L[i]? = some l → own o' l = [] → (owns S L).Nodup →
    (owns (S.set i o') L).Nodup ∧ ∀ b ∈ owns (S.set i o') L, b ∈ owns S L ∧ b ∉ own o l
  | [], _, i, o, o', l, h, _, _, _ => by simp at h
  | x :: S, [], i, o, o', l, _, h, _, _ => by simp at h
  | x :: S, y :: L, i, o, o', l, h1, h2, h3, hn => by
    simp only [owns, List.nodup_append] at hn
    obtain ⟨hn1, hn2, hn3⟩ := hn
    cases i with
    | zero =>
      simp at h1 h2; subst h1; subst h2
      simp only [List.set_cons_zero, owns, h3, List.nil_append]
      exact ⟨hn2, fun b hb => ⟨List.mem_append.2 (.inr hb), fun hb' => hn3 b hb' b hb rfl⟩⟩
    | succ i =>
      obtain ⟨e1, e2⟩ := owns_drop (o' := o') (by simpa using h1) (by simpa using h2) h3 hn2
      simp only [List.set_cons_succ, owns]
      refine ⟨List.nodup_append.2 ⟨hn1, e1, fun a ha b hb => hn3 a ha b (e2 b hb).1⟩, fun b hb => ?_⟩
      rcases List.mem_append.1 hb with hb | hb
      · exact ⟨List.mem_append.2 (.inl hb), fun hb' => hn3 b hb b (owns_mem (by simpa using h1) (by simpa using h2) b hb') rfl⟩
      · exact ⟨List.mem_append.2 (.inr (e2 b hb).1), (e2 b hb).2⟩

section
variable {P : Program} {T : Nat → Option TI} {w w' : World} {I : Nat → Prop} {L : List Lay} {s s' : St} {a : Act}

/-- A world that keeps what is immutable and what objects own. -/
theorem SR.world (hs : SR w I L s a) (hw : ∀ b, I b → w'.heap[b]? = w.heap[b]?) (ho : ∀ b ∈ owns s.S L, w'.heap[b]? = w.heap[b]?) (hsz : w.heap.size ≤ w'.heap.size) : SR w' I L s a where
  env := fun t x hx => VRel.mono hw (fun _ h => h) (fun _ _ h => h) _ _ (hs.env t x hx)
  nt := hs.nt
  len := hs.len
  obs := fun i o l h1 h2 => ORel.mono hw (fun _ h => h) (fun _ _ h => h) (fun b hb => ho b (owns_mem h1 h2 b hb)) (hs.obs i o l h1 h2)
  nodup := hs.nodup
  sep := fun b hb => ⟨(hs.sep b hb).1, Nat.lt_of_lt_of_le (hs.sep b hb).2 hsz⟩
  imm := fun b hb => Nat.lt_of_lt_of_le (hs.imm b hb) hsz
  defers := hs.defers

theorem lay_append (L : List Lay) (l : Lay) : ∀ (i : Nat) (x : Lay), L[i]? = some x → (L ++ [l])[i]? = some x := fun i x h => by
  rw [List.getElem?_append_left (List.getElem?_eq_some_iff.1 h).1]; exact h

/-- One object more; the world keeps what was there. -/
theorem SR.more (hs : SR w I L s a) (hw : ∀ b, b < w.heap.size → w'.heap[b]? = w.heap[b]?) (hsz : w.heap.size ≤ w'.heap.size) {o : Ob} {l : Lay} (ho : ORel w' I (L ++ [l]) o l)
    (hown : ∀ b ∈ own o l, w.heap.size ≤ b ∧ b < w'.heap.size) (hnd : (own o l).Nodup) : SR w' I (L ++ [l]) { s with S := s.S ++ [o] } a := by
  have h0 := hs.world (w' := w') (fun b hb => hw b (hs.imm b hb)) (fun b hb => hw b (hs.sep b hb).2) hsz
  refine ⟨fun t x hx => VRel.mono (fun _ _ => rfl) (fun _ h => h) (lay_append L l) _ _ (h0.env t x hx), hs.nt, by simp [hs.len], ?_, ?_, ?_, h0.imm, hs.defers⟩
  · intro i o' l' h1 h2
    by_cases hi : i < s.S.length
    · rw [List.getElem?_append_left hi] at h1
      rw [List.getElem?_append_left (by rw [hs.len]; exact hi)] at h2
      exact ORel.mono (fun _ _ => rfl) (fun _ h => h) (lay_append L l) (fun _ _ => rfl) (h0.obs i o' l' h1 h2)
    · rw [List.getElem?_append_right (by omega)] at h1
      rw [List.getElem?_append_right (by rw [hs.len]; omega), hs.len] at h2
      have hz : i - s.S.length = 0 := by have := (List.getElem?_eq_some_iff.1 h1).1; simp at this; omega
      rw [hz] at h1 h2
      simp at h1 h2
      subst h1; subst h2; exact ho
  · show (owns (s.S ++ [o]) (L ++ [l])).Nodup
    rw [owns_append _ _ _ _ hs.len.symm, List.nodup_append]
    refine ⟨hs.nodup, hnd, fun b hb c hc => ?_⟩
    have := (hs.sep b hb).2
    have := (hown c hc).1
    omega
  · intro b hb
    have hb' : b ∈ owns (s.S ++ [o]) (L ++ [l]) := hb
    rw [owns_append _ _ _ _ hs.len.symm] at hb'
    rcases List.mem_append.1 hb' with hb' | hb'
    · exact h0.sep b hb'
    · exact ⟨fun hi => by have := hs.imm b hi; have := (hown b hb').1; omega, (hown b hb').2⟩

theorem heapAlloc (w : World) (o : Obj) (b : Nat) (h : b < w.heap.size) : (w.alloc o).heap[b]? = w.heap[b]? := heap_alloc_old w o h

theorem Step.more (hs : SR w I L s a) (hw : ∀ b, b < w.heap.size → w'.heap[b]? = w.heap[b]?) (h1 : w'.os = w.os) (h2 : w'.tape = w.tape) (h3 : w'.output = w.output) (hsz : w.heap.size ≤ w'.heap.size)
    {o : Ob} {l : Lay} (hown : ∀ b ∈ own o l, w.heap.size ≤ b ∧ b < w'.heap.size) (hp : s.pin ≤ s.S.length) : Step w I L s w' I (L ++ [l]) { s with S := s.S ++ [o] } where
  evo := ⟨h1, h2, h3, hsz, fun b hb _ => hw b hb, fun _ h => h, fun _ h => .inl h, fun b hb => by
    have hb' : b ∈ owns (s.S ++ [o]) (L ++ [l]) := hb
    rw [owns_append _ _ _ _ hs.len.symm] at hb'
    rcases List.mem_append.1 hb' with hb' | hb'
    · exact .inl hb'
    · exact .inr (hown b hb').1⟩
  pin := rfl
  lay := fun i hi => by rw [List.getElem?_append_left (by rw [hs.len]; omega)]

/-- An object is written in place. -/
theorem SR.upd (hs : SR w I L s a) {i : Nat} {o o' : Ob} {l : Lay} (h1 : s.S[i]? = some o) (h2 : L[i]? = some l) (ho : own o' l = own o l)
    (hw : ∀ b, b < w.heap.size → b ∉ own o l → w'.heap[b]? = w.heap[b]?) (hsz : w'.heap.size = w.heap.size) (hr : ORel w' I L o' l) : SR w' I L { s with S := s.S.set i o' } a := by
  have hI : ∀ b, I b → w'.heap[b]? = w.heap[b]? := fun b hb => hw b (hs.imm b hb) fun hb' => (hs.sep b (owns_mem h1 h2 b hb')).1 hb
  refine ⟨fun t x hx => VRel.mono hI (fun _ h => h) (fun _ _ h => h) _ _ (hs.env t x hx), hs.nt, by simp [hs.len], ?_, ?_, ?_, fun b hb => by rw [hsz]; exact hs.imm b hb, hs.defers⟩
  · intro j oj lj e1 e2
    by_cases hij : i = j
    · subst hij
      rw [List.getElem?_set_self (List.getElem?_eq_some_iff.1 h1).1] at e1
      cases e1
      rw [h2] at e2; cases e2
      exact hr
    · rw [List.getElem?_set_ne hij] at e1
      exact ORel.mono hI (fun _ h => h) (fun _ _ h => h) (fun b hb => hw b (hs.sep b (owns_mem e1 e2 b hb)).2 (owns_apart hs.nodup e1 e2 h1 h2 (Ne.symm hij) b hb)) (hs.obs j oj lj e1 e2)
  · show (owns (s.S.set i o') L).Nodup
    rw [owns_set h1 h2 ho]; exact hs.nodup
  · intro b hb
    have hb' : b ∈ owns (s.S.set i o') L := hb
    rw [owns_set h1 h2 ho] at hb'
    rw [hsz]
    exact hs.sep b hb'

theorem Step.upd {i : Nat} {o o' : Ob} {l : Lay} (h1 : s.S[i]? = some o) (h2 : L[i]? = some l) (ho : own o' l = own o l)
    (hw : ∀ b, b < w.heap.size → b ∉ own o l → w'.heap[b]? = w.heap[b]?) (hsz : w'.heap.size = w.heap.size) (e1 : w'.os = w.os) (e2 : w'.tape = w.tape) (e3 : w'.output = w.output) :
    Step w I L s w' I L { s with S := s.S.set i o' } where
  evo := ⟨e1, e2, e3, by omega, fun b hb hn => hw b hb (fun hb' => hn (owns_mem h1 h2 b hb')), fun _ h => h, fun _ h => .inl h, fun b hb => by
    have hb' : b ∈ owns (s.S.set i o') L := hb
    rw [owns_set h1 h2 ho] at hb'
    exact .inl hb'⟩
  pin := rfl
  lay := fun _ _ => rfl

/-- Setting a slot behind a step. -/
theorem put_step {s1 : St} {I' : Nat → Prop} {L' : List Lay} {dst : Option Nat} {x : FV} {v : Value} (h1 : SR w' I' L' s1 a) (h2 : Step w I L s w' I' L' s1) (hx : VRel w' I' L' x v) (hset : setS s1 dst x = some s') :
    SR w' I' L' s' (a.put dst v) ∧ Step w I L s w' I' L' s' := by
  obtain ⟨e1, e2, e3⟩ := h1.put hx hset
  refine ⟨e1, ⟨?_, e3.trans h2.pin, h2.lay⟩⟩
  rw [e2]; exact h2.evo

/-! ### Variables -/

def fvCells : FV → List FV
  | .d x => x.cs.map .d
  | .agg cs => cs
  | x => [x]

theorem fvCells_ok {x : FV} {v : Value} (hx : VRel w I L x v) (hn : x ≠ .dead ∧ ∀ vs, x ≠ .tup vs) : VRelL w I L (fvCells x) v.cells.toList ∧ Ones v.cells.toList := by
  cases x with
  | d x => simp only [VRel] at hx; exact ⟨hx.cells.toV, hx.ones⟩
  | agg cs => simp only [VRel] at hx; obtain ⟨vs, rfl, ho, hr⟩ := hx; simpa [fvCells, Value.cells] using ⟨hr, ho⟩
  | dead => exact absurd rfl hn.1
  | tup vs => exact absurd rfl (hn.2 vs)
  | ref id off => have h := hx; simp only [VRel] at hx; obtain ⟨b, _, rfl⟩ := hx; simp only [fvCells, VRelL]; exact ⟨⟨_, [], rfl, h, rfl⟩, by simp [Value.cells, Ones, Value.oneCell']⟩
  | sl id n => have h := hx; simp only [VRel] at hx; obtain ⟨l, hd, c, _, _, rfl⟩ := hx; simp only [fvCells, VRelL]; exact ⟨⟨_, [], rfl, h, rfl⟩, by simp [Value.cells, Ones, Value.oneCell']⟩
  | er id k i off => have h := hx; simp only [VRel] at hx; obtain ⟨b, c, _, rfl⟩ := hx; simp only [fvCells, VRelL]; exact ⟨⟨_, [], rfl, h, rfl⟩, by simp [Value.cells, Ones, Value.oneCell']⟩
  | dp cs => have h := hx; simp only [VRel] at hx; obtain ⟨b, o, vs, rfl, _⟩ := hx; simp only [fvCells, VRelL]; exact ⟨⟨_, [], rfl, h, rfl⟩, by simp [Value.cells, Ones, Value.oneCell']⟩
  | fn f cs => have h := hx; simp only [VRel] at hx; obtain ⟨vs, rfl, _⟩ := hx; simp only [fvCells, VRelL]; exact ⟨⟨_, [], rfl, h, rfl⟩, by simp [Value.cells, Ones, Value.oneCell']⟩
  | mp id => have h := hx; simp only [VRel] at hx; obtain ⟨r, _, rfl⟩ := hx; simp only [fvCells, VRelL]; exact ⟨⟨_, [], rfl, h, rfl⟩, by simp [Value.cells, Ones, Value.oneCell']⟩
  | so id k off n => have h := hx; simp only [VRel] at hx; obtain ⟨_, _, _, _, rfl, _⟩ := hx; simp only [fvCells, VRelL]; exact ⟨⟨_, [], rfl, h, rfl⟩, by simp [Value.cells, Ones, Value.oneCell']⟩
  | sc id n c => have h := hx; simp only [VRel] at hx; obtain ⟨_, _, _, _, rfl⟩ := hx; simp only [fvCells, VRelL]; exact ⟨⟨_, [], rfl, h, rfl⟩, by simp [Value.cells, Ones, Value.oneCell']⟩

def plainV : FV → Bool
  | .dead | .tup _ => false
  | _ => true

theorem plainV_ok {x : FV} (h : plainV x = true) : x ≠ .dead ∧ ∀ vs, x ≠ .tup vs := by
  constructor
  · rintro rfl; cases h
  · rintro vs rfl; cases h

/-- A new variable of given cells. -/
theorem newVar_ok (hs : SR w I L s a) (hp : s.pin ≤ s.S.length) {t : TypeId} {cs : List FV} {vs : List Value} (hr : VRelL w I L cs vs) (ho : Ones vs) :
    SR (w.alloc (.cells vs.toArray t)) I (L ++ [.c w.heap.size]) { s with S := s.S ++ [.cells t cs] } a ∧
    Step w I L s (w.alloc (.cells vs.toArray t)) I (L ++ [.c w.heap.size]) { s with S := s.S ++ [.cells t cs] } ∧
    VRel (w.alloc (.cells vs.toArray t)) I (L ++ [.c w.heap.size]) (.ref s.S.length 0) (.pointer (some ⟨w.heap.size, 0, none⟩)) := by
  have hsz : (w.alloc (.cells vs.toArray t)).heap.size = w.heap.size + 1 := by simp
  have hw := heapAlloc w (.cells vs.toArray t)
  have hown : ∀ b ∈ own (.cells t cs) (.c w.heap.size), w.heap.size ≤ b ∧ b < (w.alloc (.cells vs.toArray t)).heap.size := by
    intro b hb; simp [own] at hb; subst hb; omega
  refine ⟨hs.more hw (by omega) ⟨w.heap.size, vs, rfl, heap_alloc_new w _, ho, VRelL.mono (fun b hb => hw b (hs.imm b hb)) (fun _ h => h) (lay_append L _) _ _ hr⟩ hown (by simp [own]),
    Step.more hs hw rfl rfl rfl (by omega) hown hp, ?_⟩
  simp only [VRel]
  exact ⟨w.heap.size, by rw [List.getElem?_append_right (by rw [hs.len]; exact Nat.le_refl _), hs.len]; simp, rfl⟩

theorem OpOk.alloc (hT : TabOk P T) {o : Oper} {t : TypeId} {i : TI} (ho : o.op = .alloc t) (hi : T t = some i) (hp : s.pin ≤ s.S.length)
    (hset : setS { s with S := s.S ++ [.cells t (i.zero.map .d)] } o.dst (.ref s.S.length 0) = some s') : OpOk P o s s' := fun w I L a hs => by
  obtain ⟨z, hz, hl, hsz⟩ := (hT _ _ hi).zeroValue (w := w)
  obtain ⟨h1, h2⟩ := ofLeaves_ok (w := w) (I := I) hl
  obtain ⟨e1, e2, e3⟩ := newVar_ok hs hp (t := t) h1.toV h2
  obtain ⟨e4, e5⟩ := put_step e1 e2 e3 hset
  refine ⟨_, _, I, _, _, ?_, .inl rfl, e4, e5⟩
  unfold execOp
  simp only [ho, Instr.alloc, Sem.run_bind, hz, Result.andThen_ok, newVar, newRow, run_newObj, Sem.run_pure]
  rfl

theorem OpOk.box {o : Oper} {t : TypeId} {x : Operand} {v : FV} (ho : o.op = .box t x) (hx : evX s x = some v) (hpl : plainV v = true) (hp : s.pin ≤ s.S.length)
    (hset : setS { s with S := s.S ++ [.cells t (fvCells v)] } o.dst (.ref s.S.length 0) = some s') : OpOk P o s s' := fun w I L a hs => by
  obtain ⟨h1, h2⟩ := fvCells_ok (hs.evX hx) (plainV_ok hpl)
  obtain ⟨e1, e2, e3⟩ := newVar_ok hs hp (t := t) h1 h2
  obtain ⟨e4, e5⟩ := put_step e1 e2 e3 hset
  refine ⟨_, _, I, _, _, ?_, .inl rfl, e4, e5⟩
  unfold execOp
  simp only [ho, Instr.box, Sem.run_bind, Result.andThen_ok, newVar, newRow, run_newObj, Sem.run_pure]
  rfl

/-! ### Stores -/

theorem DRel.leaf {x : D} {v : Value} (h : DRel w I x v) (hx : ∀ cs, x ≠ .agg cs) : v.cells.toList = [v] := by
  cases x <;> simp only [DRel] at h
  case agg => exact absurd rfl (hx _)
  case list => obtain ⟨_, _, rfl, _⟩ := h; rfl
  case any => obtain ⟨_, _, rfl⟩ := h; rfl
  case map => obtain ⟨_, _, _, rfl, _⟩ := h; rfl
  all_goals (subst h; rfl)

/-- Cells exchanged for others. -/
def spl {α : Type} (cs : List α) (off : Nat) (vs : List α) : List α := match vs with
  | [v] => cs.set off v
  | _ => cs.take off ++ vs ++ cs.drop (off + vs.length)

theorem spl_eq {α : Type} {cs : List α} {off : Nat} {vs : List α} (h : off + vs.length ≤ cs.length) : spl cs off vs = cs.take off ++ vs ++ cs.drop (off + vs.length) := by
  unfold spl
  split
  · rename_i v
    simp only [List.length_cons, List.length_nil] at h
    rw [List.set_eq_take_append_cons_drop, if_pos (by omega)]
    simp
  · rfl

theorem storeVar_run {t : TypeId} {i : TI} (hi : TIOk P t i) {b off : Nat} {tt : TypeId} {cur : List Value} {v : Value} (hb : w.heap[b]? = some (.cells cur.toArray tt (0, 0))) (hsz : v.cells.size = i.size)
    (hle : off + v.cells.toList.length ≤ cur.length) (ho : Ones v.cells.toList) :
    (storeVar t ⟨b, off, none⟩ v).run P w = .ok () (w.setRow b (spl cur off v.cells.toList).toArray) := by
  have hr := run_storeCells_at P b off tt v.cells.toList 0 cur.toArray w hb (by simpa using hle) ho
  simp only [storeVar, Sem.run_bind, hi.sizeOf, Result.andThen_ok, hsz, ne_eq, not_true, if_false]
  rw [hr, spl_eq hle]
  simp

theorem setRow_keep {b : Nat} {cs : Array Value} : ∀ k, k < w.heap.size → k ∉ [b] → (w.setRow b cs).heap[k]? = w.heap[k]? := fun k _ hk => setRow_other w b k cs (by simpa using hk)

def evStN (T : Nat → Option TI) (s : St) (t : TypeId) (p x : FV) : Option (List Ob) :=
  (T t).bind fun i => if plainV x = true ∧ (fvCells x).length = i.size then (match p with
  | .ref id off => (match s.S[id]? with
    | some (.cells tt cs) => if off + i.size ≤ cs.length then some (s.S.set id (.cells tt (spl cs off (fvCells x)))) else none
    | _ => none)
  | .er id k j off => (match s.S[id]? with
    | some (.arr e k' xs) => if k' = k then (xs[j]?).bind fun y => (allD (fvCells x)).bind fun ds => (match y with
      | .agg cs => if off + ds.length ≤ cs.length then some (s.S.set id (.arr e k (xs.set j (.agg (spl cs off ds))))) else none
      | _ => if off = 0 then (match x with
        | .d z => (match z with
          | .agg _ => none
          | z => some (s.S.set id (.arr e k (xs.set j z))))
        | _ => none) else none) else none
    | _ => none)
  | _ => none) else none

theorem VRelL.spl {cs ds : List FV} {vs us : List Value} {off : Nat} (h : VRelL w I L cs vs) (h' : VRelL w I L ds us) (hle : off + ds.length ≤ cs.length) : VRelL w I L (spl cs off ds) (spl vs off us) := by
  rw [spl_eq hle, spl_eq (by rw [h.length, h'.length]; exact hle), h'.length]
  exact ((h.take off).append h').append (h.drop _)

theorem DRelL.append {cs ds : List D} {vs us : List Value} (h : DRelL w I cs vs) (h' : DRelL w I ds us) : DRelL w I (cs ++ ds) (vs ++ us) := by
  induction cs generalizing vs with
  | nil => simp only [DRelL] at h; subst h; simpa using h'
  | cons c cs ih =>
    simp only [DRelL] at h
    obtain ⟨v, r, rfl, h1, h2⟩ := h
    simp only [List.cons_append, DRelL]
    exact ⟨v, r ++ us, rfl, h1, ih h2⟩

theorem DRelL.spl {cs ds : List D} {vs us : List Value} {off : Nat} (h : DRelL w I cs vs) (h' : DRelL w I ds us) (hle : off + ds.length ≤ cs.length) : DRelL w I (spl cs off ds) (spl vs off us) := by
  rw [spl_eq hle, spl_eq (by rw [h.length, h'.length]; exact hle), h'.length]
  exact ((h.take off).append h').append (h.drop _)

theorem Ones.spl {vs us : List Value} {off : Nat} (h : Ones vs) (h' : Ones us) (hle : off + us.length ≤ vs.length) : Ones (spl vs off us) := by
  rw [spl_eq hle]
  intro v hv
  simp only [List.mem_append] at hv
  rcases hv with (hv | hv) | hv
  · exact h v (List.mem_of_mem_take hv)
  · exact h' v hv
  · exact h v (List.mem_of_mem_drop hv)

/-- A row of the call's own, written within an element. -/
theorem ownsRow_spl {e : TypeId} {k n cap b : Nat} {vs us : List Value} {p : Nat} (h : w.ownsRow 0 e k (.slice (some ⟨b, 0, none⟩) n cap) n vs) (hle : p + us.length ≤ vs.length) :
    ∃ cur : List Value, w.heap[b]? = some (.cells cur.toArray e (0, 0)) ∧ p + us.length ≤ cur.length ∧ (w.setRow b (spl cur p us).toArray).ownsRow 0 e k (.slice (some ⟨b, 0, none⟩) n cap) n (spl vs p us) := by
  obtain ⟨hl, h⟩ := h
  rcases h with ⟨h, _⟩ | ⟨g, cp, cur, he, _, hg, hn, hm, hc, ht⟩
  · cases h
  · cases he
    have hcl : p + us.length ≤ cur.toList.length := by
      have := congrArg List.length ht
      rw [List.length_take] at this
      omega
    refine ⟨cur.toList, by simpa using hg, hcl, ?_, .inr ⟨b, cap, _, rfl, Nat.zero_le _, setRow_heap w b cur _ e (0, 0) hg, hn, hm, ?_, ?_⟩⟩
    · rw [spl_eq hle]
      simp only [List.length_append, List.length_take, List.length_drop]
      omega
    · rw [spl_eq hcl]
      simp only [List.size_toArray, List.length_append, List.length_take, List.length_drop, Array.length_toList]
      simp only [Array.length_toList] at hcl
      omega
    · rw [spl_eq hle, spl_eq hcl]
      rw [← ht] at hle ⊢
      simp only [List.length_take, Array.length_toList] at hle
      apply List.ext_getElem?
      intro j
      simp only [List.getElem?_take, List.getElem?_append, List.getElem?_drop, List.length_append, List.length_take, Array.length_toList]
      have hc' : p ≤ cur.size := by omega
      by_cases h1 : j < n * k
      · simp only [h1, if_true]
        by_cases h2 : j < p
        · have : j < min p cur.size := by omega
          have h3 : j < min p (min (n * k) cur.size) := by omega
          simp [this, h3, h2, show j < min p cur.size + us.length by omega, show j < min p (min (n * k) cur.size) + us.length by omega]
        · have e1 : min p cur.size = p := by omega
          have e2 : min p (min (n * k) cur.size) = p := by omega
          rw [e1, e2]
          by_cases h3 : j < p + us.length
          · simp [h2, h3]
          · simp [h3, show p + us.length + (j - (p + us.length)) < n * k by omega]
      · have h2 : ¬ j < p := by omega
        have e2 : min p (min (n * k) cur.size) = p := by omega
        simp only [h1, if_false, e2]
        simp [show ¬ j < p + us.length by omega, show ¬ p + us.length + (j - (p + us.length)) < n * k by omega]

theorem OpOk.store (hT : TabOk P T) {o : Oper} {t : TypeId} {p x : Operand} {vp vx : FV} {S' : List Ob} (ho : o.op = .store t p x) (hp : evX s p = some vp) (hx : evX s x = some vx)
    (hst : evStN T s t vp vx = some S') (hset : setS { s with S := S' } o.dst (.tup []) = some s') : OpOk P o s s' := fun w I L a hs => by
  have hvp := hs.evX hp
  have hvx := hs.evX hx
  have hund : ∀ (W : World) (L' : List Lay), VRel W I L' (.tup []) undef := fun W L' => by simp only [VRel, VRelL]; exact ⟨[], rfl, rfl⟩
  unfold evStN at hst
  simp only [Option.bind_eq_some_iff] at hst
  obtain ⟨i, hi, hst⟩ := hst
  have hI := hT _ _ hi
  split at hst
  · rename_i hc
    obtain ⟨hpl, hlen⟩ := hc
    obtain ⟨hcs, hones⟩ := fvCells_ok hvx (plainV_ok hpl)
    have hsz : (a.eval x).cells.size = i.size := by rw [← Array.length_toList, hcs.length]; exact hlen
    split at hst
    · rename_i id off
      simp only [VRel] at hvp
      obtain ⟨b, hl, hvp⟩ := hvp
      split at hst
      · rename_i tt cs hS
        split at hst
        · rename_i hle
          cases hst
          obtain ⟨b', vs, he, hb, h1, hr⟩ := hs.obs _ _ _ hS hl
          cases he
          have hle' : off + (a.eval x).cells.toList.length ≤ vs.length := by rw [Array.length_toList, hsz, hr.length]; exact hle
          have hrun := storeVar_run (P := P) hI hb hsz hle' hones
          have hk : ∀ k, k < w.heap.size → k ∉ own (.cells tt cs) (.c b) → (w.setRow b (spl vs off (a.eval x).cells.toList).toArray).heap[k]? = w.heap[k]? := setRow_keep
          have hII : ∀ k, I k → (w.setRow b (spl vs off (a.eval x).cells.toList).toArray).heap[k]? = w.heap[k]? := fun k hkI => hk k (hs.imm k hkI) fun hb' => (hs.sep k (owns_mem hS hl k hb')).1 hkI
          have e1 := hs.upd (o' := .cells tt (spl cs off (fvCells vx))) hS hl rfl hk (by simp) ⟨b, _, rfl, setRow_heap w b _ _ tt (0, 0) hb, h1.spl hones hle',
            VRelL.mono hII (fun _ h => h) (fun _ _ h => h) _ _ (hr.spl hcs (by rw [hlen]; exact hle))⟩
          have e2 := Step.upd (I := I) (s := s) (o' := .cells tt (spl cs off (fvCells vx))) hS hl rfl hk (by simp) rfl rfl rfl
          obtain ⟨e4, e5⟩ := put_step e1 e2 (hund _ _) hset
          refine ⟨_, _, I, L, _, ?_, .inr ⟨rfl, rfl⟩, e4, e5⟩
          unfold execOp
          simp only [ho, Instr.storeAt, hvp, Instr.sureAddr, Sem.run_bind, Sem.run_pure, Result.andThen_ok, hrun]
        · cases hst
      · cases hst
    · rename_i id k j off
      simp only [VRel] at hvp
      obtain ⟨b, cap, hl, hvp⟩ := hvp
      split at hst
      · rename_i e k' xs hS
        split at hst
        · rename_i hk; subst hk
          simp only [Option.bind_eq_some_iff] at hst
          obtain ⟨y, hy, ds, hds, hst⟩ := hst
          rcases hs.obs _ _ _ hS hl with ⟨base, cp, vs, he, hown, hr⟩ | ⟨hd, he, _⟩
          rotate_left
          · cases he
          cases he
          have hdr := hcs.allD hds
          obtain ⟨v, hv, hvk, hvd⟩ := hr.get j y hy
          have hj : j < xs.length := (List.getElem?_eq_some_iff.1 hy).1
          have hlv : vs.length = xs.length * k' := hr.length
          have hjk : j * k' + k' ≤ xs.length * k' := by
            have := Nat.mul_le_mul_right k' (show j + 1 ≤ xs.length from hj)
            rwa [Nat.succ_mul] at this
          have hdl : ds.length = (a.eval x).cells.toList.length := hdr.length.symm
          have key : ∀ z : D, off + (a.eval x).cells.toList.length ≤ k' → (∃ u, DRel w I z u ∧ u.cells.size = k' ∧ u.cells.toList = spl v.cells.toList off (a.eval x).cells.toList) → S' = s.S.set id (.arr e k' (xs.set j z)) →
              ∃ r w' I' L' v, (execOp a.eval o).run P w = .ok r w' ∧ (r = .value v ∨ r = .skip ∧ v = undef) ∧ SR w' I' L' s' (a.put o.dst v) ∧ Step w I L s w' I' L' s' := by
            intro z hle hz hS'
            obtain ⟨u, hu, huk, hus⟩ := hz
            have hle2 : j * k' + off + (a.eval x).cells.toList.length ≤ vs.length := by rw [hlv]; omega
            obtain ⟨cur, hcur, hcl, hown'⟩ := ownsRow_spl hown hle2
            have hrun := storeVar_run (P := P) hI hcur hsz hcl hones
            have hk2 : ∀ q, q < w.heap.size → q ∉ own (.arr e k' xs) (.a (some b) cap) → (w.setRow b (spl cur (j * k' + off) (a.eval x).cells.toList).toArray).heap[q]? = w.heap[q]? := setRow_keep
            have hII : ∀ q, I q → (w.setRow b (spl cur (j * k' + off) (a.eval x).cells.toList).toArray).heap[q]? = w.heap[q]? := fun q hqI => hk2 q (hs.imm q hqI) fun hb' => (hs.sep q (owns_mem hS hl q hb')).1 hqI
            have hset2 := hr.set j hj hu huk
            have hspl : spl vs (j * k' + off) (a.eval x).cells.toList = vs.take (j * k') ++ u.cells.toList ++ vs.drop (j * k' + k') := by
              have h1v : v.cells.toList.length = k' := by rw [Array.length_toList, hvk]
              rw [hus, spl_eq hle2, spl_eq (show off + (a.eval x).cells.toList.length ≤ v.cells.toList.length from by rw [h1v]; exact hle), ← hvd]
              have hz1 : (vs.drop (j * k')).take off = (vs.drop (j * k')).take off := rfl
              rw [List.take_take, Nat.min_eq_left (by omega), List.drop_take, List.drop_drop]
              rw [show vs.take (j * k' + off) = vs.take (j * k') ++ (vs.drop (j * k')).take off from by rw [List.take_add]]
              have hz2 : (vs.drop (j * k' + (off + (a.eval x).cells.toList.length))).take (k' - (off + (a.eval x).cells.toList.length)) ++ vs.drop (j * k' + k') = vs.drop (j * k' + off + (a.eval x).cells.toList.length) := by
                rw [show vs.drop (j * k' + k') = (vs.drop (j * k' + (off + (a.eval x).cells.toList.length))).drop (k' - (off + (a.eval x).cells.toList.length)) from by rw [List.drop_drop]; congr 1; omega]
                rw [List.take_append_drop]
                congr 1
                omega
              simp only [List.append_assoc]
              rw [hz2]
            rw [← hspl] at hset2
            have hxl : (xs.set j z).length = xs.length := by simp
            have e1 := hs.upd (o' := .arr e k' (xs.set j z)) hS hl rfl hk2 (by simp) (.inl ⟨some b, cap, _, rfl, by rw [hxl]; exact hown', DRelR.mono hII (fun _ h => h) _ _ _ hset2⟩)
            have e2 := Step.upd (I := I) (s := s) (o' := .arr e k' (xs.set j z)) hS hl rfl hk2 (by simp) rfl rfl rfl
            subst hS'
            obtain ⟨e4, e5⟩ := put_step e1 e2 (hund _ _) hset
            refine ⟨_, _, I, L, _, ?_, .inr ⟨rfl, rfl⟩, e4, e5⟩
            unfold execOp
            simp only [ho, Instr.storeAt, hvp, Instr.sureAddr, Sem.run_bind, Sem.run_pure, Result.andThen_ok, hrun]
          split at hst
          · rename_i cs
            split at hst
            · rename_i hle
              cases hst
              simp only [DRel] at hv
              obtain ⟨us, rfl, hus, hru⟩ := hv
              have hcl : cs.length = k' := by rw [← hru.length]; simpa [Value.cells] using hvk
              have hle3 : off + (a.eval x).cells.toList.length ≤ us.length := by rw [← hdl, hru.length]; exact hle
              refine key _ (by rw [← hdl, ← hcl]; exact hle) ⟨.agg (spl us off (a.eval x).cells.toList).toArray, ?_, ?_, rfl⟩ rfl
              · simp only [DRel]
                exact ⟨_, rfl, hus.spl hones hle3, hru.spl hdr hle⟩
              · have hsl : (spl us off (a.eval x).cells.toList).length = us.length := by
                  rw [spl_eq hle3]
                  simp only [List.length_append, List.length_take, List.length_drop]
                  omega
                show (spl us off (a.eval x).cells.toList).length = k'
                rw [hsl, hru.length, hcl]
            · cases hst
          · rename_i hya
            split at hst
            · rename_i h0
              subst h0
              split at hst
              · rename_i z0
                split at hst
                · cases hst
                · rename_i z hza
                  cases hst
                  simp only [VRel] at hvx
                  have hy1 : v.cells.toList = [v] := hv.leaf (fun cs e => hya cs e)
                  have hx1 : (a.eval x).cells.toList = [a.eval x] := hvx.leaf (fun cs e => hza cs e)
                  have hk1 : k' = 1 := by rw [← hvk, ← Array.length_toList, hy1]; rfl
                  refine key _ (by rw [hx1, hk1]; simp) ⟨a.eval x, hvx, by rw [← Array.length_toList, hx1, hk1]; rfl, by rw [hx1, hy1]; rfl⟩ rfl
              · cases hst
            · cases hst
        · cases hst
      · cases hst
    · cases hst
  · cases hst

end
end Go.Proofs.Ytaobnhenjldjeaa.Pay
/- Makes, literals, appends. No statement of the seed is proved here. -/
namespace Go.Proofs.Ytaobnhenjldjeaa.Pay
open Go Go.RowKit
set_option linter.unusedVariables false
set_option linter.unusedSimpArgs false

section
variable {P : Program} {T : Nat → Option TI} {w w' : World} {I : Nat → Prop} {L : List Lay} {s s' : St} {a : Act}

/-! ### Rows of the call's own -/

/-- A new row, that nobody has seen. -/
theorem newRow_ok (hs : SR w I L s a) (hp : s.pin ≤ s.S.length) {e : TypeId} {k n : Nat} {vs : List Value} {xs : List D} (hr : DRelR w I k xs vs) (hn : xs.length = n) (hm : n ≤ maxLen) (hsz : vs.length = n * k) :
    SR (w.alloc (.cells vs.toArray e)) I (L ++ [.a (some w.heap.size) n]) { s with S := s.S ++ [.arr e k xs] } a ∧
    Step w I L s (w.alloc (.cells vs.toArray e)) I (L ++ [.a (some w.heap.size) n]) { s with S := s.S ++ [.arr e k xs] } ∧
    VRel (w.alloc (.cells vs.toArray e)) I (L ++ [.a (some w.heap.size) n]) (.sl s.S.length n) (.slice (some ⟨w.heap.size, 0, none⟩) n n) := by
  have hsz1 : (w.alloc (.cells vs.toArray e)).heap.size = w.heap.size + 1 := by simp
  have hw := heapAlloc w (.cells vs.toArray e)
  have hown : ∀ b ∈ own (.arr e k xs) (.a (some w.heap.size) n), w.heap.size ≤ b ∧ b < (w.alloc (.cells vs.toArray e)).heap.size := by
    intro b hb; simp [own] at hb; subst hb; omega
  have ho : (w.alloc (.cells vs.toArray e)).ownsRow 0 e k (.slice (some ⟨w.heap.size, 0, none⟩) n n) n vs := by
    have := World.ownsRow_lit (base := 0) (e := e) (size := k) w vs.toArray n (Nat.zero_le _) hm (by simpa using hsz)
    simpa using this
  subst hn
  refine ⟨hs.more hw (by omega) (.inl ⟨some w.heap.size, xs.length, vs, rfl, ho, DRelR.mono (fun b hb => hw b (hs.imm b hb)) (fun _ h => h) _ _ _ hr⟩) hown (by simp [own]),
    Step.more hs hw rfl rfl rfl (by omega) hown hp, ?_⟩
  simp only [VRel]
  exact ⟨.a (some w.heap.size) xs.length, _, _, by rw [List.getElem?_append_right (by rw [hs.len]; exact Nat.le_refl _), hs.len]; simp, rfl, rfl⟩

/-- The zero value of a type, as an element. -/
def TI.zeroD (i : TI) : D := if i.ag = true then .agg i.zero else i.zero.headD .nil

theorem toList_madeCells (z : Array Value) (k : Nat) (hz : z.size = k) : ∀ n, (madeCells z (n * k)).toList = (List.replicate n z.toList).flatten
  | 0 => by simp [madeCells]
  | n + 1 => by
    rw [List.replicate_succ', List.flatten_append, ← toList_madeCells z k hz n]
    apply List.ext_getElem?
    intro j
    simp only [madeCells, Array.toList_map, Array.toList_range, List.getElem?_map, List.flatten_cons, List.flatten_nil, List.append_nil, List.getElem?_append, List.length_map, List.length_range]
    by_cases h1 : j < n * k
    · simp only [h1, if_true]
      rw [List.getElem?_range (by rw [Nat.succ_mul]; omega), List.getElem?_range h1]
    · simp only [h1, if_false]
      by_cases h2 : j < (n + 1) * k
      · rw [List.getElem?_range h2]
        have hk : j - n * k < k := by rw [Nat.succ_mul] at h2; omega
        have hm : j % k = j - n * k := by
          have : j = (j - n * k) + n * k := by omega
          rw [this, Nat.add_mul_mod_self_right, Nat.mod_eq_of_lt (by omega)]
          omega
        have hlt : j - n * k < z.size := by omega
        rw [Option.map_some, hz, hm, Array.getElem?_toList, Array.getElem?_eq_getElem hlt, getElem!_pos z _ hlt]
      · rw [List.getElem?_eq_none (by simp; omega), List.getElem?_eq_none (by simp [hz]; rw [Nat.succ_mul] at h2; omega)]
        rfl

theorem zeroD_ok {t : TypeId} {i : TI} (hi : TIOk P t i) (h1 : i.ag = true ∨ i.size = 1) : ∃ z v, (zeroValue t).run P w = .ok z w ∧ DRel w I i.zeroD v ∧ v.cells = z.cells ∧ v.cells.size = i.size := by
  obtain ⟨z, hz, hl, hsz⟩ := hi.zeroValue (w := w)
  obtain ⟨e1, e2⟩ := ofLeaves_ok (w := w) (I := I) hl
  unfold TI.zeroD
  cases hag : i.ag with
  | true =>
    refine ⟨z, .agg z.cells, hz, ?_, rfl, hsz⟩
    simp only [if_true, DRel]
    exact ⟨z.cells.toList, by simp, e2, e1⟩
  | false =>
    have h1' : i.size = 1 := by simpa [hag] using h1
    have hlen := e1.length
    rw [Array.length_toList, hsz, h1'] at hlen
    cases hzz : i.zero with
    | nil => rw [hzz] at hlen; simp at hlen
    | cons x r =>
      have hr0 : r = [] := by rw [hzz] at hlen; simp at hlen; exact hlen
      subst hr0
      rw [hzz] at e1
      simp only [DRelL] at e1
      obtain ⟨v, q, hq, hv, rfl⟩ := e1
      refine ⟨z, v, hz, by simpa using hv, ?_, ?_⟩
      · have h1v : v.oneCell' = true := e2 v (by rw [hq]; simp)
        have : v.cells = #[v] := by cases v <;> first | rfl | (simp [Value.oneCell'] at h1v)
        rw [this]
        apply Array.ext'
        rw [hq]
      · have h1v : v.oneCell' = true := e2 v (by rw [hq]; simp)
        have : v.cells = #[v] := by cases v <;> first | rfl | (simp [Value.oneCell'] at h1v)
        rw [this, h1']; rfl

theorem DRelR.replicate {k : Nat} {x : D} {v : Value} (hx : DRel w I x v) (hk : v.cells.size = k) : ∀ n, DRelR w I k (List.replicate n x) (List.replicate n v.cells.toList).flatten
  | 0 => by simp [DRelR]
  | n + 1 => by
    simp only [List.replicate_succ, List.flatten_cons, DRelR]
    exact ⟨v, _, rfl, hk, hx, DRelR.replicate hx hk n⟩

def okEl (i : TI) : Bool := i.ag || i.size == 1

theorem OpOk.make (hT : TabOk P T) {o : Oper} {t e : TypeId} {i ei : TI} {lx cx : Operand} {k1 k2 : IntKind} {n : Int} (ho : o.op = .makeSlice t lx cx) (hi : T t = some i) (hk : i.kind = .slice e) (hei : T e = some ei)
    (hl : evX s lx = some (.d (.int k1 n))) (hc : evX s cx = some (.d (.int k2 n))) (h0 : 0 ≤ n) (hb : ei.bytes * n.toNat ≤ 281474976710656) (hm : n.toNat ≤ maxLen) (hok : okEl ei = true) (hp : s.pin ≤ s.S.length)
    (hset : setS { s with S := s.S ++ [.arr e ei.size (List.replicate n.toNat ei.zeroD)] } o.dst (.sl s.S.length n.toNat) = some s') : OpOk P o s s' := fun w I L a hs => by
  have hI := (hT _ _ hi).kind
  rw [hk] at hI
  simp only [TKOk] at hI
  obtain ⟨j, z, hj, e1, e2, e3, e4, e5⟩ := (hT _ _ hei).info
  obtain ⟨z', v, hz', hv, hvc, hvs⟩ := zeroD_ok (w := w) (I := I) (hT _ _ hei) (by simpa [okEl] using hok)
  have hzz : z' = z := by
    have : (zeroValue e).run P w = .ok z w := by simp [Go.zeroValue, typeInfo, hj, e3]
    rw [this] at hz'
    cases hz'; rfl
  subst hzz
  obtain ⟨m, rfl⟩ := Int.eq_ofNat_of_zero_le h0
  simp only [Int.toNat_natCast] at hb hm hset
  have hb1 : (j.bytes : Int) * (m : Int) ≤ 281474976710656 := by
    have h : ((ei.bytes * m : Nat) : Int) ≤ 281474976710656 := by omega
    rw [e2]
    rwa [Int.natCast_mul] at h
  have hm1 : (m : Int) ≤ 9223372036854775807 := by have h := hm; simp [maxLen] at h; omega
  have hr := run_make (P := P) w t e j z' hI hj e3 k1 k2 m m (by omega) (Int.le_refl _) hb1 hm1
  simp only [Int.toNat_natCast] at hr
  have hcells : madeCells z'.cells (m * j.size) = (List.replicate m z'.cells.toList).flatten.toArray := by
    apply Array.ext'
    rw [toList_madeCells z'.cells j.size (by rw [e5, e1]) m]
  rw [hcells] at hr
  have hrep := DRelR.replicate hv hvs m
  rw [hvc] at hrep
  obtain ⟨h1, h2, h3⟩ := newRow_ok hs hp (e := e) (n := m) hrep (by simp) hm (by rw [hrep.length]; simp)
  obtain ⟨h4, h5⟩ := put_step h1 h2 h3 hset
  have q1 := hs.evX hl
  have q2 := hs.evX hc
  simp only [VRel, DRel] at q1 q2
  refine ⟨_, _, I, _, _, ?_, .inl rfl, h4, h5⟩
  unfold execOp
  simp only [ho, q1, q2, Sem.run_bind, hr, Result.andThen_ok, Sem.run_pure]

/-! ### Literals -/

/-- The elements of a literal, in order, all data. -/
def partsD (s : St) : Nat → List (Nat × Operand) → Option (List D)
  | _, [] => some []
  | n, (i, x) :: r => if i = n then (match evX s x with
    | some (.d x) => (partsD s (n + 1) r).map (x :: ·)
    | _ => none) else none

theorem fill_ok {k : Nat} : ∀ {ps : List (Nat × Operand)} {xs : List D} {n : Nat} {pre rest : List Value}, partsD s n ps = some xs → SR w I L s a → (∀ p ∈ ps, (a.eval p.2).cells.size = k) → pre.length = n * k → rest.length = ps.length * k →
    ∃ vs, Instr.fill (fun i => some (i * k, k)) (pre ++ rest).toArray (ps.map fun (i, x) => (i, a.eval x)) = some (pre ++ vs).toArray ∧ DRelR w I k xs vs ∧ vs.length = ps.length * k
  | [], xs, n, pre, rest, h, _, _, _, hr => by
    simp [partsD] at h; subst h
    have : rest = [] := List.eq_nil_of_length_eq_zero (by simpa using hr)
    subst this
    exact ⟨[], by simp [Instr.fill], by simp [DRelR], by simp⟩
  | (i, x) :: ps, xs, n, pre, rest, h, hs, hk, hp, hr => by
    unfold partsD at h
    split at h
    · rename_i hin; subst hin
      split at h
      · rename_i y hy
        simp only [Option.map_eq_some_iff] at h
        obtain ⟨ys, hys, rfl⟩ := h
        have hv := hs.evX hy
        simp only [VRel] at hv
        have hkx := hk (i, x) (by simp)
        have hfold : ∀ (cs : List Value) (p q : List Value), cs.length ≤ q.length → (cs.zipIdx.foldl (fun acc (c, j) => acc.setIfInBounds (p.length + j) c) (p ++ q).toArray) = (p ++ cs ++ q.drop cs.length).toArray := by
          intro cs
          have gen : ∀ (cs : List Value) (m : Nat) (p q : List Value), cs.length ≤ q.length → ((cs.zipIdx m).foldl (fun acc (c, j) => acc.setIfInBounds (p.length + j - m) c) (p ++ q).toArray) = (p ++ cs ++ q.drop cs.length).toArray := by
            intro cs
            induction cs with
            | nil => intro m p q _; simp
            | cons c cs ih =>
              intro m p q hq
              cases q with
              | nil => simp at hq
              | cons q0 q =>
                simp only [List.zipIdx_cons, List.foldl_cons]
                have e1 : ((p ++ q0 :: q).toArray.setIfInBounds (p.length + m - m) c) = ((p ++ [c]) ++ q).toArray := by
                  rw [Nat.add_sub_cancel]
                  apply Array.ext'
                  simp [List.set_append_right]
                rw [e1]
                have e2 := ih (m + 1) (p ++ [c]) q (by simpa using hq)
                have e3 : (fun (acc : Array Value) (x : Value × Nat) => acc.setIfInBounds ((p ++ [c]).length + x.2 - (m + 1)) x.1) = (fun (acc : Array Value) (x : Value × Nat) => acc.setIfInBounds (p.length + x.2 - m) x.1) := by
                  funext acc x
                  congr 1
                  simp
                  omega
                simp only [e3] at e2
                rw [e2]
                simp
          intro p q hq
          have := gen cs 0 p q hq
          simpa using this
        have hrl : k ≤ rest.length := by rw [hr, List.length_cons, Nat.succ_mul]; omega
        have hcl : (a.eval x).cells.toList.length = k := by rw [Array.length_toList]; exact hkx
        obtain ⟨vs, h1, h2, h3⟩ := fill_ok (pre := pre ++ (a.eval x).cells.toList) (rest := rest.drop k) hys hs (fun p hp => hk p (by simp [hp])) (by simp [hkx, hp, Nat.succ_mul]) (by rw [List.length_drop, hr, List.length_cons, Nat.succ_mul]; omega)
        refine ⟨(a.eval x).cells.toList ++ vs, ?_, ?_, by simp [hkx, h3, Nat.succ_mul, Nat.add_comm]⟩
        · simp only [List.map_cons, Instr.fill]
          rw [if_neg (by simp [hkx, hp]; omega)]
          have hz : (a.eval x).cells.zipIdx.foldl (fun cs (x : Value × Nat) => cs.setIfInBounds (i * k + x.2) x.1) (pre ++ rest).toArray = (pre ++ (a.eval x).cells.toList ++ rest.drop k).toArray := by
            have := hfold (a.eval x).cells.toList pre rest (by rw [hcl]; exact hrl)
            rw [hp, hcl] at this
            rw [← Array.foldl_toList, Array.toList_zipIdx]
            exact this
          rw [hz, h1]
          simp
        · simp only [DRelR]
          exact ⟨_, vs, rfl, hkx, hv, h2⟩
      · cases h
    · cases h

def szD (i : TI) : D → Bool
  | .agg cs => cs.length == i.size
  | _ => i.size == 1

theorem szD_ok {i : TI} {x : D} {v : Value} (h : szD i x = true) (hx : DRel w I x v) : v.cells.size = i.size := by
  rw [← Array.length_toList, hx.cells.length]
  cases x <;> simp_all [szD, D.cs]

theorem OpOk.lit (hT : TabOk P T) {o : Oper} {t e : TypeId} {i ei : TI} {len : Nat} {parts : Array (Nat × Operand)} {xs : List D} (ho : o.op = .buildSlice t len parts) (hi : T t = some i) (hk : i.kind = .slice e) (hei : T e = some ei)
    (hx : partsD s 0 parts.toList = some xs) (hlen : len = xs.length) (hsz : xs.all (szD ei) = true) (hsm : len * ei.size ≤ 16777216) (hm : len ≤ maxLen) (hok : okEl ei = true) (hp : s.pin ≤ s.S.length)
    (hset : setS { s with S := s.S ++ [.arr e ei.size xs] } o.dst (.sl s.S.length len) = some s') : OpOk P o s s' := fun w I L a hs => by
  have hI := (hT _ _ hi).kind
  rw [hk] at hI
  simp only [TKOk] at hI
  obtain ⟨z, hz, hzl, hzs⟩ := (hT _ _ hei).zeroValue (w := w)
  have hparts : ∀ {ps : List (Nat × Operand)} {n : Nat} {ys : List D}, partsD s n ps = some ys → ys.all (szD ei) = true → ps.length = ys.length ∧ ∀ p ∈ ps, (a.eval p.2).cells.size = ei.size := by
    intro ps
    induction ps with
    | nil => intro n ys h _; simp [partsD] at h; subst h; simp
    | cons p ps ih =>
      obtain ⟨i0, x0⟩ := p
      intro n ys h hall
      unfold partsD at h
      split at h
      · split at h
        · rename_i y hy
          simp only [Option.map_eq_some_iff] at h
          obtain ⟨zs, hzs, rfl⟩ := h
          simp only [List.all_cons, Bool.and_eq_true] at hall
          obtain ⟨e1, e2⟩ := ih hzs hall.2
          have hv := hs.evX hy
          simp only [VRel] at hv
          refine ⟨by simp [e1], fun p hp => ?_⟩
          rcases List.mem_cons.1 hp with rfl | hp
          · exact szD_ok hall.1 hv
          · exact e2 p hp
        · cases h
      · cases h
  obtain ⟨q1, q2⟩ := hparts hx hsz
  have hrest : ((Array.range (len * ei.size)).map (fun j => (if len * ei.size = 0 then #[] else z.cells)[j % (if len * ei.size = 0 then #[] else z.cells).size]!)).toList.length = parts.toList.length * ei.size := by
    rw [q1, ← hlen]; simp
  obtain ⟨vs, h1, h2, h3⟩ := fill_ok (pre := []) (rest := ((Array.range (len * ei.size)).map (fun j => (if len * ei.size = 0 then #[] else z.cells)[j % (if len * ei.size = 0 then #[] else z.cells).size]!)).toList) hx hs q2 (by simp) hrest
  simp only [List.nil_append, Array.toArray_toList] at h1
  have hll : vs.length = len * ei.size := by rw [h3, q1, hlen]
  obtain ⟨e1, e2, e3⟩ := newRow_ok hs hp (e := e) (n := len) h2 hlen.symm hm hll
  obtain ⟨h4, h5⟩ := put_step e1 e2 e3 hset
  refine ⟨_, _, I, _, _, ?_, .inl rfl, h4, h5⟩
  have hmap : (parts.map fun (i, x) => (i, a.eval x)).toList = parts.toList.map fun (i, x) => (i, a.eval x) := by simp
  have hsm' : ¬ (len * ei.size > 2 ^ 24) := by omega
  unfold execOp
  simp only [ho, Instr.buildSlice, Sem.run_bind, runU hI, Result.andThen_ok, (hT _ _ hei).sizeOf, if_neg hsm', hmap]
  by_cases h0 : len * ei.size = 0
  · simp only [h0, if_true] at h1 ⊢
    simp only [Sem.run_pure, Result.andThen_ok, Sem.run_bind]
    rw [h1]
    simp [newRow]
  · simp only [h0, if_false] at h1 ⊢
    simp only [Sem.run_pure, Result.andThen_ok, Sem.run_bind, hz]
    rw [h1]
    simp [newRow]

end
end Go.Proofs.Ytaobnhenjldjeaa.Pay
/- Struct literals, appends. No statement of the seed is proved here. -/
namespace Go.Proofs.Ytaobnhenjldjeaa.Pay
open Go Go.RowKit
set_option linter.unusedVariables false
set_option linter.unusedSimpArgs false

section
variable {P : Program} {T : Nat → Option TI} {w w' : World} {I : Nat → Prop} {L : List Lay} {s s' : St} {a : Act}

/-- Parts laid into cells. -/
def fillV (pl : Nat → Option (Nat × Nat)) (s : St) : List FV → List (Nat × Operand) → Option (List FV)
  | cs, [] => some cs
  | cs, (i, x) :: r => (pl i).bind fun p => (evX s x).bind fun v =>
    if plainV v = true ∧ (fvCells v).length = p.2 ∧ p.1 + p.2 ≤ cs.length then fillV pl s (spl cs p.1 (fvCells v)) r else none

theorem foldl_set : ∀ (us : List Value) (m : Nat) (off : Nat) (vs : List Value), off + us.length ≤ vs.length →
    ((us.zipIdx m).foldl (fun acc (x : Value × Nat) => acc.setIfInBounds (off + x.2 - m) x.1) vs.toArray) = (spl vs off us).toArray
  | [], m, off, vs, h => by
    rw [spl_eq h]
    simp
  | u :: us, m, off, vs, h => by
    have h' : off + 1 + us.length ≤ (vs.set off u).length := by simp at h ⊢; omega
    have ih := foldl_set us (m + 1) (off + 1) (vs.set off u) h'
    simp only [List.zipIdx_cons, List.foldl_cons]
    have e1 : vs.toArray.setIfInBounds (off + m - m) u = (vs.set off u).toArray := by rw [Nat.add_sub_cancel]; simp
    have e3 : (fun (acc : Array Value) (x : Value × Nat) => acc.setIfInBounds (off + 1 + x.2 - (m + 1)) x.1) = (fun (acc : Array Value) (x : Value × Nat) => acc.setIfInBounds (off + x.2 - m) x.1) := by
      funext acc x
      congr 1
      omega
    rw [e1, ← e3, ih, spl_eq h', spl_eq h]
    congr 1
    have h2 : off < vs.length := by simp at h; omega
    rw [List.take_set, List.drop_set_of_lt (by omega)]
    rw [List.take_add_one, List.getElem?_eq_getElem h2]
    simp only [Option.toList_some, List.length_cons, List.append_assoc]
    rw [List.set_append_right _ _ (by rw [List.length_take]; omega)]
    simp [Nat.min_eq_left (Nat.le_of_lt h2), Nat.add_assoc, Nat.add_comm 1]

theorem fillV_ok {pl : Nat → Option (Nat × Nat)} : ∀ {ps : List (Nat × Operand)} {cs cs' : List FV} {vs : List Value}, fillV pl s cs ps = some cs' → SR w I L s a → VRelL w I L cs vs → Ones vs →
    ∃ vs' : List Value, Instr.fill pl vs.toArray (ps.map fun (i, x) => (i, a.eval x)) = some vs'.toArray ∧ VRelL w I L cs' vs' ∧ Ones vs'
  | [], cs, cs', vs, h, _, hr, ho => by simp [fillV] at h; subst h; exact ⟨vs, by simp [Instr.fill], hr, ho⟩
  | (i, x) :: ps, cs, cs', vs, h, hs, hr, ho => by
    simp only [fillV, Option.bind_eq_some_iff] at h
    obtain ⟨p, hp, v, hv, h⟩ := h
    split at h
    · rename_i hc
      obtain ⟨h1, h2, h3⟩ := hc
      obtain ⟨hcs, hones⟩ := fvCells_ok (hs.evX hv) (plainV_ok h1)
      have hlen : (a.eval x).cells.toList.length = p.2 := by rw [hcs.length, h2]
      have hle : p.1 + (a.eval x).cells.toList.length ≤ vs.length := by rw [hlen, hr.length]; exact h3
      obtain ⟨vs', e1, e2, e3⟩ := fillV_ok h hs (hr.spl hcs (by rw [h2]; exact h3)) (ho.spl hones hle)
      refine ⟨vs', ?_, e2, e3⟩
      simp only [List.map_cons, Instr.fill, hp]
      have hsz : (a.eval x).cells.size = p.2 := by rw [← Array.length_toList]; exact hlen
      have hn : ¬ (((a.eval x).cells.size ≠ p.2 || decide (p.1 + (a.eval x).cells.size > vs.toArray.size)) = true) := by
        simp [hsz]
        rw [hr.length]; exact h3
      rw [if_neg hn]
      have := foldl_set (a.eval x).cells.toList 0 p.1 vs hle
      simp only [Nat.sub_zero] at this
      rw [← Array.foldl_toList, Array.toList_zipIdx]
      exact (congrArg (fun c => Instr.fill pl c (ps.map fun (i, x) => (i, a.eval x))) this).trans e1
    · cases h

/-- Where a struct's fields lie. -/
def placesT (T : Nat → Option TI) : List (Nat × Nat) → Option (List (Nat × Nat))
  | [] => some []
  | (o, t) :: r => (T t).bind fun i => (placesT T r).map ((o, i.size) :: ·)

theorem placesT_ok (hT : TabOk P T) : ∀ (fs : List Field) {pl : List (Nat × Nat)}, placesT T (fs.map fun f => (f.offset, f.type)) = some pl → fs.mapM (fun f => (P.info? f.type).map fun i => (f.offset, i.size)) = some pl
  | [], pl, h => by simp [placesT] at h; subst h; rfl
  | f :: fs, pl, h => by
    simp only [List.map_cons, placesT, Option.bind_eq_some_iff, Option.map_eq_some_iff] at h
    obtain ⟨i, hi, q, hq, rfl⟩ := h
    obtain ⟨j, z, hj, e1, _⟩ := (hT _ _ hi).info
    simp [List.mapM_cons, hj, placesT_ok hT fs hq, e1]

def evBd (T : Nat → Option TI) (s : St) (t : TypeId) (parts : List (Nat × Operand)) : Option FV :=
  (T t).bind fun i => match i.kind with
  | .struct fs => (placesT T fs).bind fun pl => (fillV (pl[·]?) s (i.zero.map .d) parts).map mkV
  | .array _ e => (T e).bind fun ei => (fillV (fun j => some (j * ei.size, ei.size)) s (i.zero.map .d) parts).map mkV
  | _ => none

theorem OpOk.build (hT : TabOk P T) {o : Oper} {t : TypeId} {parts : Array (Nat × Operand)} {v : FV} (ho : o.op = .build t parts) (hv : evBd T s t parts.toList = some v) (hset : setS s o.dst v = some s') : OpOk P o s s' := fun w I L a hs => by
  unfold evBd at hv
  simp only [Option.bind_eq_some_iff] at hv
  obtain ⟨i, hi, hv⟩ := hv
  have hI := (hT _ _ hi).kind
  obtain ⟨j, z, hj, e1, e2, e3, e4, e5⟩ := (hT _ _ hi).info
  obtain ⟨h1, h2⟩ := ofLeaves_ok (w := w) (I := I) e4
  have hmap : (parts.map fun (i, x) => (i, a.eval x)).toList = parts.toList.map fun (i, x) => (i, a.eval x) := by simp
  have fin : ∀ vs : List Value, P.built t (parts.map fun (i, x) => (i, a.eval x)).toList = some vs.toArray → VRel w I L v (.agg vs.toArray) →
      ∃ r w' I' L' v, (execOp a.eval o).run P w = .ok r w' ∧ (r = .value v ∨ r = .skip ∧ v = undef) ∧ SR w' I' L' s' (a.put o.dst v) ∧ Step w I L s w' I' L' s' := by
    intro vs hb hx
    obtain ⟨h4, h5⟩ := put_step hs (Step.refl _ _ _ _) hx hset
    refine ⟨_, w, I, L, _, ?_, .inl rfl, h4, h5⟩
    unfold execOp
    simp only [ho, Sem.run_bind, run_build w t _ _ hb, Result.andThen_ok, Sem.run_pure]
  split at hv
  · rename_i fs hk
    rw [hk] at hI
    obtain ⟨d, hd, hfs⟩ := hI
    simp only [Option.bind_eq_some_iff, Option.map_eq_some_iff] at hv
    obtain ⟨pl, hpl, cs, hcs, rfl⟩ := hv
    obtain ⟨vs, hf, hr, ho'⟩ := fillV_ok hcs hs h1.toV h2
    have hpp : d.toList.mapM (fun f => (P.info? f.type).map fun i => (f.offset, i.size)) = some pl := placesT_ok hT _ (by rw [hfs]; exact hpl)
    refine fin vs ?_ (mkV_ok hr ho')
    simp only [Program.built, hj, hd, e3, hpp, hmap]
    simpa using hf
  · rename_i _ e hk
    rw [hk] at hI
    simp only [TKOk] at hI
    simp only [Option.bind_eq_some_iff, Option.map_eq_some_iff] at hv
    obtain ⟨ei, hei, cs, hcs, rfl⟩ := hv
    obtain ⟨vs, hf, hr, ho'⟩ := fillV_ok hcs hs h1.toV h2
    obtain ⟨j2, z2, hj2, e12, _⟩ := (hT _ _ hei).info
    refine fin vs ?_ (mkV_ok hr ho')
    simp only [Program.built, hj, hI, e3, hj2, e12, hmap]
    simpa using hf
  · cases hv

/-! ### Appends -/

/-- What is appended: elements of k cells each. -/
def srcV (s : St) (k : Nat) : FV → Option (List D)
  | .d .nil => some []
  | .d (.list k' xs) => if k' = k then some xs else none
  | .sl id m => match s.S[id]? with
    | some (.arr _ k' xs) => if k' = k ∧ m ≤ xs.length then some (xs.take m) else none
    | some (.frz k' xs) => if k' = k ∧ m ≤ xs.length then some (xs.take m) else none
    | _ => none
  | _ => none

theorem srcV_ok (hs : SR w I L s a) {k : Nat} {y : FV} {v : Value} {ys : List D} (hy : VRel w I L y v) (h : srcV s k y = some ys) :
    ∃ hd c vs, v = .slice hd ys.length c ∧ DRelR w I k ys vs ∧ (vs = [] ∨ ∃ b o, hd = some ⟨b, o, none⟩ ∧ CellsAt w b o vs) ∧ (hd = none → ys = []) := by
  unfold srcV at h
  split at h
  · cases h
    simp only [VRel, DRel] at hy
    exact ⟨none, 0, [], hy, by simp [DRelR], .inl rfl, fun _ => rfl⟩
  · rename_i k' xs
    split at h
    · rename_i hk; subst hk
      cases h
      simp only [VRel, DRel] at hy
      obtain ⟨hd, c, hv, _, hx⟩ := hy
      rcases hx with hx | ⟨b, o, vs, rfl, _, hc, hr⟩
      · subst hx; exact ⟨hd, c, [], hv, by simp [DRelR], .inl rfl, fun _ => rfl⟩
      · exact ⟨_, c, vs, hv, hr, .inr ⟨b, o, rfl, hc⟩, fun e => by cases e⟩
    · cases h
  · rename_i id m
    simp only [VRel] at hy
    obtain ⟨l, hd, c, hl, hh, hv⟩ := hy
    split at h
    · rename_i e k' xs hS
      split at h
      · rename_i hk
        obtain ⟨rfl, hm⟩ := hk
        cases h
        have hlen : (xs.take m).length = m := by rw [List.length_take]; omega
        rcases hs.obs _ _ _ hS hl with ⟨base, cp, vs, rfl, hown, hr⟩ | ⟨hd', rfl, rfl⟩
        · simp only [Lay.hdr, Option.some.injEq, Prod.mk.injEq] at hh
          obtain ⟨rfl, rfl⟩ := hh
          refine ⟨_, cp, vs.take (m * k'), by rw [hlen]; exact hv, hr.take m, ?_, ?_⟩
          · by_cases h0 : 0 < vs.length
            · obtain ⟨b, rfl, hc⟩ := ownsRow_cells hown h0
              exact .inr ⟨b, 0, rfl, cellsAt_take hc _⟩
            · left
              rw [List.eq_nil_of_length_eq_zero (show vs.length = 0 by omega)]; simp
          · intro hb
            rcases hown.2 with ⟨_, h0⟩ | ⟨g, cpp, cur, he, _⟩
            · exact List.eq_nil_of_length_eq_zero (by omega)
            · cases base with
              | none => simp [Lay.head] at he
              | some b => simp [Lay.head] at hb
        · simp only [List.length_nil, Nat.le_zero] at hm
          subst hm
          exact ⟨hd, c, [], by simpa using hv, by simp [DRelR], .inl rfl, fun _ => by simp⟩
      · cases h
    · rename_i k' xs hS
      split at h
      · rename_i hk
        obtain ⟨rfl, hm⟩ := hk
        cases h
        have hlen : (xs.take m).length = m := by rw [List.length_take]; omega
        obtain ⟨hd', cp, hh', hd1⟩ := hs.obs _ _ _ hS hl
        rw [hh] at hh'
        simp only [Option.some.injEq, Prod.mk.injEq] at hh'
        obtain ⟨rfl, rfl⟩ := hh'
        simp only [DRel] at hd1
        obtain ⟨base, c', he, _, hx⟩ := hd1
        simp at he
        obtain ⟨rfl, rfl⟩ := he
        rcases hx with hx | ⟨b, o, vs, rfl, _, hc, hr⟩
        · subst hx
          exact ⟨hd, c, [], by rw [hlen]; exact hv, by simp [DRelR], .inl rfl, fun _ => by simp⟩
        · exact ⟨_, c, vs.take (m * k'), by rw [hlen]; exact hv, hr.take m, .inr ⟨b, o, rfl, cellsAt_take hc _⟩, fun e => by cases e⟩
      · cases h
    · cases h
  · cases h

theorem DRelR.ones {k : Nat} : ∀ {xs : List D} {vs : List Value}, DRelR w I k xs vs → Ones vs
  | [], vs, h => by simp only [DRelR] at h; subst h; intro v hv; simp at hv
  | x :: xs, vs, h => by
    simp only [DRelR] at h
    obtain ⟨v, r, rfl, _, h1, h2⟩ := h
    intro u hu
    rcases List.mem_append.1 hu with hu | hu
    · exact h1.ones u hu
    · exact h2.ones u hu

/-- The type of what is appended does not count, if it is a slice. -/
theorem run_append_types {t u e e' ty : TypeId} (ht : P.underlying t = some (.slice e)) (hu : P.underlying u = some (.slice e')) (hd hd2 : Option Addr) (n c m c2 : Nat) :
    (Builtin.append_ #[t, u] ty #[.slice hd n c, .slice hd2 m c2]).run P w = (Builtin.append_ #[t, t] ty #[.slice hd n c, .slice hd2 m c2]).run P w := by
  unfold Builtin.append_
  simp [run_underlying ht, run_underlying hu]

/-- Nothing is appended. -/
theorem run_append_none {t e ty : TypeId} {j : TypeInfo} (ht : P.underlying t = some (.slice e)) (hj : P.info? e = some j) {hd hd2 : Option Addr} {n c c2 : Nat} (hn : n ≤ c) :
    (Builtin.append_ #[t, t] ty #[.slice hd n c, .slice hd2 0 c2]).run P w = .ok (.slice hd n c) w := by
  cases hd2 <;> cases hd <;> simp [Builtin.append_, run_underlying ht, sizeOf, typeInfo, hj, Builtin.lenOf, Builtin.firstCells, loadCells, loadCellsFrom, storeCells, hn]

theorem ownsRow_take {e : TypeId} {k n m cap : Nat} {hd : Option Addr} {vs : List Value} (h : w.ownsRow 0 e k (.slice hd n cap) n vs) (hm : m ≤ n) (hn : n ≠ 0) : w.ownsRow 0 e k (.slice hd m cap) m (vs.take (m * k)) := by
  obtain ⟨h1, h2⟩ := h
  have hmk : m * k ≤ n * k := Nat.mul_le_mul_right k hm
  rcases h2 with ⟨_, h0⟩ | ⟨g, cp, cur, he, hb, hg, hle, hmx, hc, ht⟩
  · exact absurd h0 hn
  · cases he
    refine ⟨by rw [List.length_take]; omega, .inr ⟨g, cap, cur, rfl, hb, hg, by omega, hmx, hc, ?_⟩⟩
    rw [← ht, List.take_take, Nat.min_eq_left hmk]

/-- An append to a row of the call's own, as it stands in a world. -/
theorem append_run {t u e e' ty : TypeId} {j : TypeInfo} {z : Value} {k : Nat} (ht : P.underlying t = some (.slice e)) (hu : P.underlying u = some (.slice e')) (hj : P.info? e = some j) (hz : j.zero = some z) (hsz : j.size = k) (hzs : z.cells.size = k) (hk : 0 < k)
    {l : Lay} {xs ys : List D} {hd hd2 : Option Addr} {cap c2 : Nat} {us : List Value} (hl : l.hdr = some (hd, cap)) (ho : ORel w I L (.arr e k xs) l) (hus : DRelR w I k ys us) (hcs : us = [] ∨ ∃ b o, hd2 = some ⟨b, o, none⟩ ∧ CellsAt w b o us)
    (hdn : hd2 = none → ys = []) (h63 : xs.length + ys.length ≤ maxLen) (hby : (xs.length + ys.length) * j.bytes ≤ 140737488355328) (hI : ∀ b ∈ own (.arr e k xs) l, ¬ I b) (hIm : ∀ b, I b → b < w.heap.size) :
    ∃ hd' cap' w' l', (Builtin.append_ #[t, u] ty #[.slice hd xs.length cap, .slice hd2 ys.length c2]).run P w = .ok (.slice hd' (xs.length + ys.length) cap') w' ∧ l'.hdr = some (hd', cap') ∧ ORel w' I L (.arr e k (xs ++ ys)) l' ∧
      w'.os = w.os ∧ w'.tape = w.tape ∧ w'.output = w.output ∧ w.heap.size ≤ w'.heap.size ∧ (∀ b, b < w.heap.size → b ∉ own (.arr e k xs) l → w'.heap[b]? = w.heap[b]?) ∧
      (∀ b ∈ own (.arr e k (xs ++ ys)) l', (b ∈ own (.arr e k xs) l ∨ w.heap.size ≤ b) ∧ b < w'.heap.size) := by
  rw [run_append_types ht hu]
  by_cases hy0 : ys = []
  · subst hy0
    have hcap : xs.length ≤ cap := by
      rcases ho with ⟨base, cp, vs, rfl, hown, hr⟩ | ⟨hd', rfl, rfl⟩
      · simp only [Lay.hdr, Option.some.injEq, Prod.mk.injEq] at hl
        obtain ⟨rfl, rfl⟩ := hl
        rcases hown.2 with ⟨h1, h2⟩ | ⟨g, cp, cur, he, _, _, hle, _⟩
        · omega
        · simp only [Value.slice.injEq] at he
          obtain ⟨_, _, rfl⟩ := he
          exact hle
      · simp
    refine ⟨hd, cap, w, l, by simpa using run_append_none ht hj hcap, hl, by simpa using ho, rfl, rfl, rfl, Nat.le_refl _, fun _ _ _ => rfl, fun b hb => ?_⟩
    have hb' : b ∈ own (.arr e k xs) l := by simpa using hb
    refine ⟨.inl hb', ?_⟩
    rcases ho with ⟨base, cp, vs, rfl, hown, hr⟩ | ⟨hd', rfl, rfl⟩
    · cases base with
      | none => simp [own] at hb'
      | some b0 =>
        simp [own] at hb'
        subst hb'
        exact (hown.lt b (by simp [Value.ownBlock, Lay.head])).2
    · simp [own] at hb'
  · obtain ⟨ad, rfl⟩ : ∃ ad, hd2 = some ad := by
      cases hd2 with
      | none => exact absurd (hdn rfl) hy0
      | some ad => exact ⟨ad, rfl⟩
    have hnews : ∀ j v, us[j]? = some v → w.cell? (ad.add j) = some v := by
      intro j v hv
      rcases hcs with rfl | ⟨b, o, he, hc⟩
      · simp at hv
      · cases he
        simpa [Addr.add_lit] using hc j v hv
    have hul : us.length = ys.length * k := hus.length
    subst hsz
    have hy1 : 0 < ys.length := by
      cases ys with
      | nil => exact absurd rfl hy0
      | cons y ys => simp
    have h63' : ((xs.length + ys.length : Nat) : Int) ≤ 9223372036854775807 := by simp only [maxLen] at h63; omega
    -- a new row
    have grown : ∀ (old : Nat) (vs : List Value), old < xs.length + ys.length → DRelR w I j.size xs vs →
        ∀ r : Result Value, r = .ok (.slice (some ⟨w.heap.size, 0, none⟩) (xs.length + ys.length) (grownCap w (xs.length + ys.length) old e)) (w.drew.alloc (.cells (vs.toArray ++ us.toArray ++ Builtin.zeroCells z.cells (grownCap w (xs.length + ys.length) old e - (xs.length + ys.length))) e)) →
        ∃ hd' cap' w' l', r = .ok (.slice hd' (xs.length + ys.length) cap') w' ∧ l'.hdr = some (hd', cap') ∧ ORel w' I L (.arr e j.size (xs ++ ys)) l' ∧
          w'.os = w.os ∧ w'.tape = w.tape ∧ w'.output = w.output ∧ w.heap.size ≤ w'.heap.size ∧ (∀ b, b < w.heap.size → b ∉ own (.arr e j.size xs) l → w'.heap[b]? = w.heap[b]?) ∧
          (∀ b ∈ own (.arr e j.size (xs ++ ys)) l', (b ∈ own (.arr e j.size xs) l ∨ w.heap.size ≤ b) ∧ b < w'.heap.size) := by
      intro old vs hold hr r hrun
      have hvl : vs.length = xs.length * j.size := hr.length
      generalize hcap : grownCap w (xs.length + ys.length) old e = cp at hrun
      have hge : xs.length + ys.length ≤ cp := hcap ▸ grownCap_ge w (xs.length + ys.length) old e
      have hcm : cp ≤ maxLen := hcap ▸ grownCap_le_maxLen w (xs.length + ys.length) old e h63
      generalize hw' : w.drew.alloc (.cells (vs.toArray ++ us.toArray ++ Builtin.zeroCells z.cells (cp - (xs.length + ys.length))) e) = w' at hrun
      have hk1 : ∀ b, b < w.heap.size → w'.heap[b]? = w.heap[b]? := by
        intro b hb
        rw [← hw']
        exact heap_alloc_old w.drew _ (by simpa using hb)
      have hs1 : w'.heap.size = w.heap.size + 1 := by rw [← hw']; simp
      have hII : ∀ b, I b → w'.heap[b]? = w.heap[b]? := fun b hb => hk1 b (hIm b hb)
      have hnew : w'.heap[w.heap.size]? = some (.cells (vs.toArray ++ us.toArray ++ Builtin.zeroCells z.cells (cp - (xs.length + ys.length))) e (0, 0)) := by
        rw [← hw']
        exact heap_alloc_new w.drew _
      refine ⟨_, cp, w', .a (some w.heap.size) cp, hrun, rfl, .inl ⟨some w.heap.size, cp, vs ++ us, rfl, ⟨?_, .inr ⟨w.heap.size, cp, _, ?_, Nat.zero_le _, hnew, ?_, hcm, ?_, ?_⟩⟩, DRelR.mono hII (fun _ h => h) _ _ _ (hr.append hus)⟩,
        by rw [← hw']; rfl, by rw [← hw']; rfl, by rw [← hw']; rfl, by omega, fun b hb _ => hk1 b hb, fun b hb => ?_⟩
      · rw [List.length_append, List.length_append, hvl, hul, Nat.add_mul]
      · simp [Lay.head]
      · simpa using hge
      · simp only [Array.size_append, List.size_toArray, size_zeroCells, hzs, hvl, hul, ← Nat.add_mul]
        congr 1
        omega
      · simp only [Array.toList_append, List.length_append]
        rw [show (xs.length + ys.length) * j.size = (vs ++ us).length from by rw [List.length_append, hvl, hul, Nat.add_mul]]
        exact List.take_left
      · simp [own] at hb
        subst hb
        exact ⟨.inr (Nat.le_refl _), by omega⟩
    rcases ho with ⟨base, cp, vs, rfl, hown, hr⟩ | ⟨hd', rfl, rfl⟩
    · simp only [Lay.hdr, Option.some.injEq, Prod.mk.injEq] at hl
      obtain ⟨rfl, rfl⟩ := hl
      rcases hown.2 with ⟨h1, h2⟩ | ⟨g, cpp, cur, he, _, hg, hle, hmx, hcs2, htake⟩
      · cases base with
        | some b => simp [Lay.head] at h1
        | none =>
          have hx0 : xs = [] := List.eq_nil_of_length_eq_zero h2
          subst hx0
          simp only [DRelR] at hr
          subst hr
          simp only [Lay.head, Option.map_none, List.length_nil, Value.slice.injEq, true_and] at h1
          subst h1
          refine grown 0 [] (by simpa using hy1) (by simp [DRelR]) _ ?_
          have := run_append_nil (P := P) w t ty e j z ht hj hz ad ys.length c2 us hul hnews hy1 (by simpa using h63') (by have hb := hby; simp only [List.length_nil, Nat.zero_add] at hb; omega)
          simpa [Lay.head] using this
      · cases base with
        | none => simp [Lay.head] at he
        | some b =>
          simp only [Lay.head, Option.map_some, Value.slice.injEq, Option.some.injEq, Addr.mk.injEq, and_true, true_and] at he
          obtain ⟨rfl, rfl⟩ := he
          by_cases hroom : xs.length + ys.length ≤ cp
          · have hvl : vs.length = xs.length * j.size := hr.length
            have hfit : xs.length * j.size + us.length ≤ cur.size := by rw [hul, hcs2, ← Nat.add_mul]; exact Nat.mul_le_mul_right _ hroom
            have hrun := run_append_room (P := P) w t ty e j ht hj b xs.length cp cur hg ad ys.length c2 us hul hnews hus.ones hroom hfit
            generalize hw' : w.setRow b (cur.toList.take (xs.length * j.size) ++ us ++ cur.toList.drop (xs.length * j.size + us.length)).toArray = w' at hrun
            have hkeep : ∀ q, q < w.heap.size → q ∉ own (.arr e j.size xs) (.a (some b) cp) → w'.heap[q]? = w.heap[q]? := by
              intro q _ hq
              rw [← hw']
              exact setRow_other w b q _ (by simpa [own] using hq)
            have hII : ∀ q, I q → w'.heap[q]? = w.heap[q]? := fun q hq => hkeep q (hIm q hq) fun h => hI q h hq
            have hs1 : w'.heap.size = w.heap.size := by rw [← hw']; simp
            have hnew : w'.heap[b]? = some (.cells (cur.toList.take (xs.length * j.size) ++ us ++ cur.toList.drop (xs.length * j.size + us.length)).toArray e (0, 0)) := by
              rw [← hw']
              exact setRow_heap w b _ _ e (0, 0) hg
            refine ⟨_, cp, w', .a (some b) cp, by simpa [Lay.head] using hrun, rfl, .inl ⟨some b, cp, vs ++ us, rfl, ⟨?_, .inr ⟨b, cp, _, ?_, Nat.zero_le _, hnew, ?_, hmx, ?_, ?_⟩⟩, DRelR.mono hII (fun _ h => h) _ _ _ (hr.append hus)⟩,
              by rw [← hw']; rfl, by rw [← hw']; rfl, by rw [← hw']; rfl, by omega, hkeep, fun q hq => ?_⟩
            · rw [List.length_append, List.length_append, hvl, hul, Nat.add_mul]
            · simp [Lay.head]
            · simpa using hroom
            · simp only [List.size_toArray, List.length_append, List.length_take, List.length_drop, Array.length_toList]
              omega
            · rw [htake]
              simp only [List.length_append]
              rw [show (xs.length + ys.length) * j.size = (vs ++ us).length from by rw [List.length_append, hvl, hul, Nat.add_mul]]
              exact List.take_left
            · simp [own] at hq
              subst hq
              exact ⟨.inl (by simp [own]), by rw [hs1]; exact (Array.getElem?_eq_some_iff.1 hg).1⟩
          · have holds : ∀ q v, vs[q]? = some v → w.cell? ((⟨b, 0, none⟩ : Addr).add q) = some v := fun q v hv => by
              have hown2 : w.ownsRow 0 e j.size (.slice (some ⟨b, 0, none⟩) xs.length cp) xs.length vs := by simpa [Lay.head] using hown
              exact hown2.cells (g := b) rfl q v hv
            refine grown cp vs (by omega) hr _ ?_
            have := run_append_grow (P := P) w t ty e j z ht hj hz ⟨b, 0, none⟩ xs.length cp vs hr.length holds ad ys.length c2 us hul hnews (by omega) h63' (growslice_fits (by omega) hby)
            simpa [Lay.head] using this
    · simp only [Lay.hdr, Option.some.injEq, Prod.mk.injEq] at hl
      obtain ⟨rfl, rfl⟩ := hl
      refine grown 0 [] (by simpa using hy1) (by simp [DRelR]) _ ?_
      cases hd' with
      | none =>
        have := run_append_nil (P := P) w t ty e j z ht hj hz ad ys.length c2 us hul hnews hy1 (by simpa using h63') (by have hb := hby; simp only [List.length_nil, Nat.zero_add] at hb; omega)
        simpa using this
      | some a0 =>
        have := run_append_grow (P := P) w t ty e j z ht hj hz a0 0 0 [] (by simp) (fun q v hv => by simp at hv) ad ys.length c2 us hul hnews (by omega) (by simpa using h63') (growslice_fits (by omega) (by simpa using hby))
        simpa using this

end
end Go.Proofs.Ytaobnhenjldjeaa.Pay
/- The append's rule; calls; what a state may be taken for. No statement of the seed is proved here. -/
namespace Go.Proofs.Ytaobnhenjldjeaa.Pay
open Go Go.RowKit
set_option linter.unusedVariables false
set_option linter.unusedSimpArgs false

/-! ### Objects by themselves -/

structure OR (w : World) (I : Nat → Prop) (L : List Lay) (S : List Ob) : Prop where
  len : L.length = S.length
  obs : ∀ (i : Nat) (o : Ob) (l : Lay), S[i]? = some o → L[i]? = some l → ORel w I L o l
  nodup : (owns S L).Nodup
  sep : ∀ b ∈ owns S L, ¬ I b ∧ b < w.heap.size
  imm : ∀ b, I b → b < w.heap.size

theorem owns_of_mem : ∀ {S : List Ob} {L : List Lay} {b : Nat}, b ∈ owns S L → ∃ (i : Nat) (o : Ob) (l : Lay), S[i]? = some o ∧ L[i]? = some l ∧ b ∈ own o l
  | [], L, b, h => by simp [owns] at h
  | x :: S, [], b, h => by simp [owns] at h
  | x :: S, y :: L, b, h => by
    simp only [owns, List.mem_append] at h
    rcases h with h | h
    · exact ⟨0, x, y, rfl, rfl, h⟩
    · obtain ⟨i, o, l, h1, h2, h3⟩ := owns_of_mem h
      exact ⟨i + 1, o, l, by simpa using h1, by simpa using h2, h3⟩

theorem own_nodup (o : Ob) (l : Lay) : (own o l).Nodup := by
  unfold own
  split <;> simp

theorem own_arr (e k : Nat) (xs ys : List D) (l : Lay) : own (.arr e k xs) l = own (.arr e k ys) l := by
  cases l with
  | a base cap => cases base <;> rfl
  | _ => rfl

theorem owns_nodup : ∀ {S : List Ob} {L : List Lay}, (∀ (i j : Nat) (o o' : Ob) (l l' : Lay), i ≠ j → S[i]? = some o → L[i]? = some l → S[j]? = some o' → L[j]? = some l' → ∀ b ∈ own o l, b ∉ own o' l') → (owns S L).Nodup
  | [], L, _ => by simp [owns]
  | x :: S, [], _ => by simp [owns]
  | x :: S, y :: L, h => by
    simp only [owns, List.nodup_append]
    refine ⟨own_nodup x y, owns_nodup fun i j o o' l l' hij h1 h2 h3 h4 => h (i + 1) (j + 1) o o' l l' (by omega) (by simpa using h1) (by simpa using h2) (by simpa using h3) (by simpa using h4), fun b hb c hc e => ?_⟩
    subst e
    obtain ⟨i, o, l, h1, h2, h3⟩ := owns_of_mem hc
    exact h 0 (i + 1) x o y l (by omega) rfl rfl (by simpa using h1) (by simpa using h2) b hb h3

section
variable {P : Program} {T : Nat → Option TI} {w w' : World} {I I' : Nat → Prop} {L L' : List Lay} {s s' : St} {a : Act} {all : Array Oper} {o : Oper} {rest : List Oper} {Q : Exit → St → Prop}

theorem SR.or (hs : SR w I L s a) : OR w I L s.S := ⟨hs.len, hs.obs, hs.nodup, hs.sep, hs.imm⟩

/-- One object is given up, one is new; what neither owns is as it was. -/
theorem SR.repl (hs : SR w I L s a) {id : Nat} {o0 o1 : Ob} {l0 l1 : Lay} (h1 : s.S[id]? = some o0) (h2 : L[id]? = some l0)
    (hw : ∀ b, b < w.heap.size → b ∉ own o0 l0 → w'.heap[b]? = w.heap[b]?) (hsz : w.heap.size ≤ w'.heap.size) (hr : ORel w' I L o1 l1)
    (hown : ∀ b ∈ own o1 l1, (b ∈ own o0 l0 ∨ w.heap.size ≤ b) ∧ b < w'.heap.size) : SR w' I (L ++ [l1]) { s with S := s.S.set id .gone ++ [o1] } a := by
  have hI : ∀ b, I b → w'.heap[b]? = w.heap[b]? := fun b hb => hw b (hs.imm b hb) fun hb' => (hs.sep b (owns_mem h1 h2 b hb')).1 hb
  have hlen : (s.S.set id .gone).length = L.length := by simp [hs.len]
  obtain ⟨d1, d2⟩ := owns_drop (o' := .gone) h1 h2 rfl hs.nodup
  refine ⟨fun t x hx => VRel.mono hI (fun _ h => h) (lay_append L l1) _ _ (hs.env t x hx), hs.nt, by simp [hs.len], ?_, ?_, ?_, fun b hb => Nat.lt_of_lt_of_le (hs.imm b hb) hsz, hs.defers⟩
  · intro j oj lj e1 e2
    have e1' : (s.S.set id .gone ++ [o1])[j]? = some oj := e1
    by_cases hj : j < s.S.length
    · rw [List.getElem?_append_left (by simpa using hj)] at e1'
      rw [List.getElem?_append_left (by rw [hs.len]; exact hj)] at e2
      by_cases hij : id = j
      · subst hij
        rw [List.getElem?_set_self hj] at e1'
        cases e1'
        trivial
      · rw [List.getElem?_set_ne hij] at e1'
        exact ORel.mono hI (fun _ h => h) (lay_append L l1) (fun b hb => hw b (hs.sep b (owns_mem e1' e2 b hb)).2 (owns_apart hs.nodup e1' e2 h1 h2 (Ne.symm hij) b hb)) (hs.obs j oj lj e1' e2)
    · rw [List.getElem?_append_right (by simp; omega)] at e1'
      rw [List.getElem?_append_right (by rw [hs.len]; omega), hs.len] at e2
      have hz : j - s.S.length = 0 := by have := (List.getElem?_eq_some_iff.1 e1').1; simp at this; omega
      simp only [List.length_set, hz] at e1' e2
      simp at e1' e2
      subst e1'; subst e2
      exact ORel.mono (fun _ _ => rfl) (fun _ h => h) (lay_append L l1) (fun _ _ => rfl) hr
  · show (owns (s.S.set id .gone ++ [o1]) (L ++ [l1])).Nodup
    rw [owns_append _ _ _ _ hlen, List.nodup_append]
    refine ⟨d1, own_nodup _ _, fun b hb c hc e => ?_⟩
    subst e
    rcases (hown b hc).1 with h | h
    · exact (d2 b hb).2 h
    · have := (hs.sep b (d2 b hb).1).2; omega
  · intro b hb
    have hb' : b ∈ owns (s.S.set id .gone ++ [o1]) (L ++ [l1]) := hb
    rw [owns_append _ _ _ _ hlen] at hb'
    rcases List.mem_append.1 hb' with hb' | hb'
    · exact ⟨(hs.sep b (d2 b hb').1).1, Nat.lt_of_lt_of_le (hs.sep b (d2 b hb').1).2 hsz⟩
    · refine ⟨fun hi => ?_, (hown b hb').2⟩
      rcases (hown b hb').1 with h | h
      · exact (hs.sep b (owns_mem h1 h2 b h)).1 hi
      · have := hs.imm b hi; omega

theorem Step.repl (hs : SR w I L s a) (hp : s.pin ≤ s.S.length) {id : Nat} {o0 o1 : Ob} {l0 l1 : Lay} (h1 : s.S[id]? = some o0) (h2 : L[id]? = some l0)
    (hw : ∀ b, b < w.heap.size → b ∉ own o0 l0 → w'.heap[b]? = w.heap[b]?) (hsz : w.heap.size ≤ w'.heap.size) (e1 : w'.os = w.os) (e2 : w'.tape = w.tape) (e3 : w'.output = w.output)
    (hown : ∀ b ∈ own o1 l1, (b ∈ own o0 l0 ∨ w.heap.size ≤ b) ∧ b < w'.heap.size) : Step w I L s w' I (L ++ [l1]) { s with S := s.S.set id .gone ++ [o1] } where
  evo := ⟨e1, e2, e3, hsz, fun b hb hn => hw b hb (fun hb' => hn (owns_mem h1 h2 b hb')), fun _ h => h, fun _ h => .inl h, fun b hb => by
    have hlen : (s.S.set id .gone).length = L.length := by simp [hs.len]
    obtain ⟨d1, d2⟩ := owns_drop (o' := .gone) h1 h2 rfl hs.nodup
    have hb' : b ∈ owns (s.S.set id .gone ++ [o1]) (L ++ [l1]) := hb
    rw [owns_append _ _ _ _ hlen] at hb'
    rcases List.mem_append.1 hb' with hb' | hb'
    · exact .inl (d2 b hb').1
    · rcases (hown b hb').1 with h | h
      · exact .inl (owns_mem h1 h2 b h)
      · exact .inr h⟩
  pin := rfl
  lay := fun i hi => by rw [List.getElem?_append_left (by rw [hs.len]; omega)]

def evAp (T : Nat → Option TI) (s : St) (t u : TypeId) (x y : FV) : Option (List Ob × Nat) :=
  (T t).bind fun i => (T u).bind fun j => match i.kind, j.kind with
  | .slice e, .slice _ => (T e).bind fun ei => (srcV s ei.size y).bind fun ys => (match x with
    | .sl id n => (match s.S[id]? with
      | some (.arr e' k xs) => if e' = e ∧ k = ei.size ∧ n ≤ xs.length ∧ 0 < k ∧ n + ys.length ≤ 8589934592 ∧ ei.bytes ≤ 16384 then some (s.S.set id .gone ++ [.arr e k (xs.take n ++ ys)], n + ys.length) else none
      | _ => none)
    | .d .nil => if 0 < ei.size ∧ ys.length ≤ 8589934592 ∧ ei.bytes ≤ 16384 then some (s.S ++ [.arr e ei.size ys], ys.length) else none
    | _ => none)
  | .slice e, .int _ => (T e).bind fun ei => (match x, y with
    | .sc id n c, .d (.int _ z) => (match s.S[id]? with
      | some (.arr e' k xs) => if e' = e ∧ k = ei.size ∧ n ≤ xs.length ∧ 0 < k ∧ 0 < z ∧ c < n + z.toNat ∧ n + z.toNat ≤ 8589934592 ∧ ei.bytes ≤ 16384 ∧ okEl ei = true then some (s.S ++ [.arr e k (xs.take n ++ List.replicate z.toNat ei.zeroD)], n + z.toNat) else none
      | _ => none)
    | _, _ => none)
  | _, _ => none

theorem small_bytes {n b : Nat} (h1 : n ≤ 8589934592) (h2 : b ≤ 16384) : n * b ≤ 140737488355328 ∧ n ≤ maxLen := by
  refine ⟨?_, by simp only [maxLen]; omega⟩
  calc n * b ≤ 8589934592 * 16384 := Nat.mul_le_mul h1 h2
    _ = 140737488355328 := by decide

/-- Zeros are appended beyond the room: a new row; the old one is left. -/
theorem zeros_run (hT : TabOk P T) (hs : SR w I L s a) (hp : s.pin ≤ s.S.length) {t u e ty : TypeId} {ku kz : IntKind} {ei : TI} (ht : P.underlying t = some (.slice e)) (hu : P.underlying u = some (.int ku)) (hei : T e = some ei) (hok : okEl ei = true)
    {id n c k : Nat} {z : Int} {xs : List D} {l : Lay} {hd : Option Addr} (hS : s.S[id]? = some (.arr e k xs)) (hl : L[id]? = some l) (hh : l.hdr = some (hd, c)) (hk : k = ei.size) (hn : n ≤ xs.length) (hk0 : 0 < k) (hz : 0 < z)
    (hc : c < n + z.toNat) (hsm : n + z.toNat ≤ 8589934592) (hby : ei.bytes ≤ 16384) :
    ∃ v w' L', (Builtin.append_ #[t, u] ty #[.slice hd n c, .int kz z]).run P w = .ok v w' ∧ SR w' I L' { s with S := s.S ++ [.arr e k (xs.take n ++ List.replicate z.toNat ei.zeroD)] } a ∧
      Step w I L s w' I L' { s with S := s.S ++ [.arr e k (xs.take n ++ List.replicate z.toNat ei.zeroD)] } ∧ VRel w' I L' (.sl s.S.length (n + z.toNat)) v := by
  obtain ⟨m, rfl⟩ := Int.eq_ofNat_of_zero_le (Int.le_of_lt hz)
  simp only [Int.toNat_natCast] at *
  subst hk
  obtain ⟨j, zv, hj, e1, e2, e3, e4, e5⟩ := (hT _ _ hei).info
  obtain ⟨z', v, hz', hv, hvc, hvs⟩ := zeroD_ok (w := w) (I := I) (hT _ _ hei) (by simpa [okEl] using hok)
  have hzz : z' = zv := by
    have : (zeroValue e).run P w = .ok zv w := by simp [Go.zeroValue, typeInfo, hj, e3]
    rw [this] at hz'
    cases hz'; rfl
  subst hzz
  obtain ⟨vs, hr, hvl, hfirst⟩ : ∃ vs, DRelR w I ei.size (xs.take n) vs ∧ vs.length = n * ei.size ∧ (Builtin.firstCells j.size n (.slice hd n c)).run P w.drew = .ok vs.toArray w.drew := by
    rcases hs.obs _ _ _ hS hl with ⟨base, cp, vs, rfl, hown, hr⟩ | ⟨hd', rfl, rfl⟩
    · simp only [Lay.hdr, Option.some.injEq, Prod.mk.injEq] at hh
      obtain ⟨rfl, rfl⟩ := hh
      have hvl : vs.length = xs.length * ei.size := hr.length
      have hlen : (vs.take (n * ei.size)).length = n * ei.size := by
        rw [List.length_take, hvl]
        exact Nat.min_eq_left (Nat.mul_le_mul_right _ hn)
      refine ⟨vs.take (n * ei.size), hr.take n, hlen, ?_⟩
      cases base with
      | none =>
        have h0 : xs.length = 0 := by
          rcases hown.2 with ⟨_, h⟩ | ⟨g, cpp, cur, he, _⟩
          · exact h
          · simp [Lay.head] at he
        have hn0 : n = 0 := by omega
        subst hn0
        simp [Builtin.firstCells, Lay.head]
      | some b =>
        have hcells : CellsAt w.drew b 0 (vs.take (n * ei.size)) := by
          by_cases h0 : 0 < vs.length
          · obtain ⟨b', hb', hc'⟩ := ownsRow_cells hown h0
            cases hb'
            exact cellsAt_take hc' _
          · rw [List.eq_nil_of_length_eq_zero (show vs.length = 0 by omega)]
            intro j v hv; simp at hv
        have := run_loadCells_list (P := P) w.drew ⟨b, 0, none⟩ (vs.take (n * ei.size)) (fun j v hv => by
          have := hcells j v hv
          simpa [Addr.add_lit] using this)
        rw [hlen] at this
        simp [Builtin.firstCells, Lay.head, e1, this]
    · simp only [List.length_nil, Nat.le_zero] at hn
      subst hn
      refine ⟨[], by simp [DRelR], by simp, ?_⟩
      cases hd <;> simp [Builtin.firstCells, loadCells, loadCellsFrom]
  obtain ⟨b1, b2⟩ := small_bytes hsm hby
  have hm : 0 < m := by omega
  have hmb : m * ei.bytes ≤ (n + m) * ei.bytes := Nat.mul_le_mul_right _ (by omega)
  have hrun := Lib.run_append_grow_zeros (P := P) w t u ty e j z' kz ku ht hu hj e3 hd n c vs hfirst m hm (by rw [e1]; exact hk0) hc (by simp only [maxLen] at b2; omega) (by rw [e2]; omega) (by rw [e2]; exact growslice_fits hc b1)
  generalize hcap : grownCap w (n + m) c e = cp at hrun
  have hge : n + m ≤ cp := hcap ▸ grownCap_ge w (n + m) c e
  have hcm : cp ≤ maxLen := hcap ▸ grownCap_le_maxLen w (n + m) c e b2
  have hzc : ∀ q, (Builtin.zeroCells z'.cells q).toList = (List.replicate q z'.cells.toList).flatten := fun q => by
    rw [← toList_madeCells z'.cells z'.cells.size rfl q]
    rfl
  have hrep := DRelR.replicate hv hvs m
  rw [hvc] at hrep
  have hall := hr.append hrep
  rw [← hzc m] at hall
  have hzl : (Builtin.zeroCells z'.cells m).toList.length = m * ei.size := by
    rw [Array.length_toList, size_zeroCells, e5]
  generalize hw' : w.drew.alloc (.cells (vs.toArray ++ Builtin.zeroCells z'.cells m ++ Builtin.zeroCells z'.cells (cp - (n + m))) e) = w' at hrun
  have hk1 : ∀ b, b < w.heap.size → w'.heap[b]? = w.heap[b]? := by
    intro b hb
    rw [← hw']
    exact heap_alloc_old w.drew _ (by simpa using hb)
  have hs1 : w'.heap.size = w.heap.size + 1 := by rw [← hw']; simp
  have hII : ∀ b, I b → w'.heap[b]? = w.heap[b]? := fun b hb => hk1 b (hs.imm b hb)
  have hnew : w'.heap[w.heap.size]? = some (.cells (vs.toArray ++ Builtin.zeroCells z'.cells m ++ Builtin.zeroCells z'.cells (cp - (n + m))) e (0, 0)) := by
    rw [← hw']
    exact heap_alloc_new w.drew _
  have htl : (xs.take n).length = n := by rw [List.length_take]; omega
  have hxl : (xs.take n ++ List.replicate m ei.zeroD).length = n + m := by rw [List.length_append, htl, List.length_replicate]
  have hown' : ∀ b ∈ own (.arr e ei.size (xs.take n ++ List.replicate m ei.zeroD)) (.a (some w.heap.size) cp), w.heap.size ≤ b ∧ b < w'.heap.size := by
    intro b hb; simp [own] at hb; subst hb; omega
  have hor : ORel w' I (L ++ [.a (some w.heap.size) cp]) (.arr e ei.size (xs.take n ++ List.replicate m ei.zeroD)) (.a (some w.heap.size) cp) := by
    refine .inl ⟨some w.heap.size, cp, vs ++ (Builtin.zeroCells z'.cells m).toList, rfl, ⟨?_, .inr ⟨w.heap.size, cp, _, ?_, Nat.zero_le _, hnew, ?_, hcm, ?_, ?_⟩⟩, DRelR.mono hII (fun _ h => h) _ _ _ hall⟩
    · rw [List.length_append, hvl, hzl, hxl, Nat.add_mul]
    · simp [Lay.head]
    · rw [hxl]; exact hge
    · simp only [Array.size_append, List.size_toArray, size_zeroCells, e5, hvl, ← Nat.add_mul]
      congr 1
      omega
    · rw [hxl]
      simp only [Array.toList_append]
      rw [show (n + m) * ei.size = (vs ++ (Builtin.zeroCells z'.cells m).toList).length from by rw [List.length_append, hvl, hzl, Nat.add_mul]]
      exact List.take_left
  have hsz : w.heap.size ≤ w'.heap.size := by omega
  refine ⟨_, w', _, hrun, hs.more hk1 hsz hor hown' (own_nodup _ _), Step.more hs hk1 (by rw [← hw']; rfl) (by rw [← hw']; rfl) (by rw [← hw']; rfl) hsz hown' hp, ?_⟩
  simp only [VRel]
  exact ⟨.a (some w.heap.size) cp, _, cp, by rw [List.getElem?_append_right (by rw [hs.len]; exact Nat.le_refl _), hs.len]; simp, rfl, rfl⟩

theorem OpOk.append (hT : TabOk P T) {t u : TypeId} {sx yx : Operand} {vx vy : FV} {S' : List Ob} {n' : Nat} (ho : o.op = .call { callee := .builtin .append, args := #[sx, yx], argTypes := #[t, u] })
    (hx : evX s sx = some vx) (hy : evX s yx = some vy) (h : evAp T s t u vx vy = some (S', n')) (hp : s.pin ≤ s.S.length)
    (hset : setS { s with S := S' } o.dst (.sl s.S.length n') = some s') : OpOk P o s s' := fun w I L a hs => by
  unfold evAp at h
  simp only [Option.bind_eq_some_iff] at h
  obtain ⟨i, hi, j, hj, h⟩ := h
  have hI := (hT _ _ hi).kind
  have hJ := (hT _ _ hj).kind
  split at h
  · rename_i e e' hk1 hk2
    rw [hk1] at hI; rw [hk2] at hJ
    simp only [TKOk] at hI hJ
    simp only [Option.bind_eq_some_iff] at h
    obtain ⟨ei, hei, ys, hys, h⟩ := h
    obtain ⟨tj, z, htj, q1, q2, q3, q4, q5⟩ := (hT _ _ hei).info
    obtain ⟨hd2, c2, us, hvy, hus, hcs, hdn⟩ := srcV_ok hs (hs.evX hy) hys
    have hvx := hs.evX hx
    have run : ∀ v r w1, a.eval sx = v → (Builtin.append_ #[t, u] o.type #[v, a.eval yx]).run P w = .ok r w1 → (execOp a.eval o).run P w = .ok (.value r) w1 := by
      intro v r w1 hv hr
      unfold execOp
      simp only [ho, resolve, invoke, builtin, Sem.run_bind, Sem.run_pure, Result.andThen_ok, List.map_toArray, List.map_cons, List.map_nil, hv, hr]
    split at h
    · rename_i id n
      simp only [VRel] at hvx
      obtain ⟨l, hd, cap, hl, hh, hvx⟩ := hvx
      split at h
      · rename_i e2 k xs hS
        split at h
        · rename_i hc
          obtain ⟨rfl, rfl, hn, hk, hsm, hby⟩ := hc
          simp only [Option.some.injEq, Prod.mk.injEq] at h
          obtain ⟨rfl, rfl⟩ := h
          have hlen : (xs.take n).length = n := by rw [List.length_take]; omega
          have hob := hs.obs _ _ _ hS hl
          have hob' : ORel w I L (.arr e2 ei.size (xs.take n)) l := by
            rcases hob with ⟨base, cp, vs, rfl, hown, hr⟩ | ⟨hd', rfl, rfl⟩
            · refine .inl ⟨base, cp, vs.take (n * ei.size), rfl, ?_, hr.take n⟩
              rw [hlen]
              by_cases h0 : xs.length = 0
              · have hn0 : n = 0 := by omega
                have hx0 : xs = [] := List.eq_nil_of_length_eq_zero h0
                subst hx0; subst hn0
                simp only [DRelR] at hr
                subst hr
                simpa using hown
              · exact ownsRow_take hown hn h0
            · exact .inr ⟨hd', rfl, by simp⟩
          have hoo : ∀ b ∈ own (.arr e2 ei.size (xs.take n)) l, b ∈ own (.arr e2 ei.size xs) l := fun b hb => by rw [own_arr e2 ei.size xs (xs.take n)]; exact hb
          obtain ⟨b1, b2⟩ := small_bytes hsm hby
          obtain ⟨hd', cap', w1, l1, hr, hl1, hor, e1, e2', e3, e4, e5, e6⟩ := append_run (ty := o.type) (c2 := c2) (hd2 := hd2) hI hJ htj q3 q1 (by rw [q5]) hk hh hob' hus hcs hdn (by rw [hlen]; exact b2) (by rw [hlen, q2]; exact b1)
            (fun b hb => (hs.sep b (owns_mem hS hl b (hoo b hb))).1) hs.imm
          rw [hlen] at hr
          have hw5 : ∀ b, b < w.heap.size → b ∉ own (.arr e2 ei.size xs) l → w1.heap[b]? = w.heap[b]? := fun b hb hn => e5 b hb fun h => hn (hoo b h)
          have hw6 : ∀ b ∈ own (.arr e2 ei.size (xs.take n ++ ys)) l1, (b ∈ own (.arr e2 ei.size xs) l ∨ w.heap.size ≤ b) ∧ b < w1.heap.size := fun b hb => ⟨(e6 b hb).1.imp (hoo b) (fun h => h), (e6 b hb).2⟩
          have r1 := hs.repl hS hl hw5 e4 hor hw6
          have r2 := Step.repl hs hp hS hl hw5 e4 e1 e2' e3 hw6
          have r3 : VRel w1 I (L ++ [l1]) (.sl s.S.length (n + ys.length)) (.slice hd' (n + ys.length) cap') := by
            simp only [VRel]
            exact ⟨l1, hd', cap', by rw [List.getElem?_append_right (by rw [hs.len]; exact Nat.le_refl _), hs.len]; simp, hl1, rfl⟩
          obtain ⟨r4, r5⟩ := put_step r1 r2 r3 hset
          refine ⟨_, w1, I, _, _, run _ _ _ hvx ?_, .inl rfl, r4, r5⟩
          rw [hvy]; exact hr
        · cases h
      · cases h
    · simp only [VRel, DRel] at hvx
      split at h
      · rename_i hc
        obtain ⟨hk, hsm, hby⟩ := hc
        simp only [Option.some.injEq, Prod.mk.injEq] at h
        obtain ⟨rfl, rfl⟩ := h
        obtain ⟨b1, b2⟩ := small_bytes hsm hby
        have hob : ORel w I L (.arr e ei.size []) (.a none 0) := .inl ⟨none, 0, [], rfl, World.ownsRow_nil w 0 e ei.size, by simp [DRelR]⟩
        obtain ⟨hd', cap', w1, l1, hr, hl1, hor, e1, e2', e3, e4, e5, e6⟩ := append_run (ty := o.type) (c2 := c2) (hd2 := hd2) hI hJ htj q3 q1 (by rw [q5]) hk (by rfl) hob hus hcs hdn (by simpa using b2) (by rw [q2]; simpa using b1)
          (fun b hb => by simp [own] at hb) hs.imm
        simp only [List.nil_append] at hor e6
        have hw5 : ∀ b, b < w.heap.size → w1.heap[b]? = w.heap[b]? := fun b hb => e5 b hb (by simp [own])
        have hw6 : ∀ b ∈ own (.arr e ei.size ys) l1, w.heap.size ≤ b ∧ b < w1.heap.size := fun b hb => ⟨(e6 b hb).1.resolve_left (by simp [own]), (e6 b hb).2⟩
        have hor' := ORel.mono (fun _ _ => rfl) (fun _ h => h) (lay_append L l1) (fun _ _ => rfl) hor
        have r1 := hs.more hw5 e4 hor' hw6 (own_nodup _ _)
        have r2 := Step.more hs hw5 e1 e2' e3 e4 hw6 hp
        have r3 : VRel w1 I (L ++ [l1]) (.sl s.S.length ys.length) (.slice hd' ys.length cap') := by
          simp only [VRel]
          exact ⟨l1, hd', cap', by rw [List.getElem?_append_right (by rw [hs.len]; exact Nat.le_refl _), hs.len]; simp, hl1, rfl⟩
        obtain ⟨r4, r5⟩ := put_step r1 r2 r3 hset
        refine ⟨_, w1, I, _, _, run _ _ _ hvx ?_, .inl rfl, r4, r5⟩
        rw [hvy]
        simpa [Lay.head] using hr
      · cases h
    · cases h
  · rename_i e ku hk1 hk2
    rw [hk1] at hI; rw [hk2] at hJ
    simp only [TKOk] at hI hJ
    simp only [Option.bind_eq_some_iff] at h
    obtain ⟨ei, hei, h⟩ := h
    have hvx := hs.evX hx
    have hvy := hs.evX hy
    split at h
    · rename_i id n c kz z
      simp only [VRel, DRel] at hvx hvy
      obtain ⟨l, hd, hl, hh, hvx⟩ := hvx
      split at h
      · rename_i e2 k xs hS
        split at h
        · rename_i hc
          obtain ⟨rfl, hk, hn, hk0, hz, hcc, hsm, hby, hok⟩ := hc
          simp only [Option.some.injEq, Prod.mk.injEq] at h
          obtain ⟨rfl, rfl⟩ := h
          obtain ⟨v, w', L', q1, q2, q3, q4⟩ := zeros_run (ty := o.type) (kz := kz) hT hs hp hI hJ hei hok hS hl hh hk hn hk0 hz hcc hsm hby
          obtain ⟨r4, r5⟩ := put_step q2 q3 q4 hset
          refine ⟨_, w', I, _, _, ?_, .inl rfl, r4, r5⟩
          unfold execOp
          simp only [ho, resolve, invoke, builtin, Sem.run_bind, Sem.run_pure, Result.andThen_ok, List.map_toArray, List.map_cons, List.map_nil, hvx, hvy, q1]
        · cases h
      · cases h
    · cases h
  · cases h

end
end Go.Proofs.Ytaobnhenjldjeaa.Pay
