/- The rules for operations: those that turn no memory, new variables, stores, appends. No statement of the seed is proved here. -/
import Derived.Test.YtjlamhilnkadcaaGreatDoorPayE
namespace Go.Proofs.YtjlamhilnkadcaaGreatDoor.Pay
open Go Go.RowKit
set_option linter.unusedVariables false
set_option linter.unusedSimpArgs false

section
variable {P : Program} {T : Nat → Option TI} {w : World} {I : Nat → Prop} {L : List Lay} {s : St} {a : Act}

theorem guard_ok {op : BinOp} {t : TypeId} {ox oy : Operand} {x y : FV} {vx vy : Value} {z : D} (hx : VRel w I L x vx) (hy : VRel w I L y vy) (h : evBin T op t x y = some z)
    (hn : (∃ c, ox = .const c) ∨ (∃ c, oy = .const c) ∨ ¬ (x = .d .nili ∧ y = .d .nili)) : eqGuard op t ox oy vx vy = pure () := by
  unfold evBin at h
  split at h
  · simp only [VRel, DRel] at hx; subst hx; exact eqGuard_at_int ..
  · simp only [VRel, DRel] at hx; subst hx; exact eqGuard_at_string ..
  · simp only [VRel, DRel] at hx; subst hx; exact eqGuard_at_float ..
  · simp only [VRel, DRel] at hx; subst hx; exact eqGuard_at_complex ..
  · simp only [VRel, DRel] at hx; subst hx; exact eqGuard_at_bool ..
  · simp only [VRel, DRel] at hx; obtain ⟨_, _, rfl⟩ := hx; exact eqGuard_at_iface ..
  · simp only [VRel, DRel] at hx hy
    subst hx; subst hy
    rcases hn with ⟨c, rfl⟩ | ⟨c, rfl⟩ | hn
    · exact eqGuard_nil_constL ..
    · exact eqGuard_nil_constR ..
    · exact absurd ⟨rfl, rfl⟩ hn
  · simp only [VRel] at hx; obtain ⟨_, _, rfl⟩ := hx; exact eqGuard_at_pointer ..
  · cases h

theorem evA_all (hT : TabOk P T) (hs : SR w I L s a) {o : Oper} {z : FV} (h : evA T s o.op = some z) : ∃ v, (∀ w' : World, Agree w w' I (owns s.S L) → (execOp a.eval o).run P w' = .ok (.value v) w') ∧ VRel w I L z v := by
  unfold execOp
  unfold evA at h
  split at h
  · rename_i x he; exact ⟨a.eval x, fun w' hg => by simp [he], hs.evX h⟩
  · rename_i x he; exact ⟨a.eval x, fun w' hg => by simp [he], hs.evX h⟩
  · rename_i c x y he
    simp only [Option.bind_eq_some_iff] at h
    obtain ⟨vc, hc, vx, hx, vy, hy, h⟩ := h
    split at h
    · rename_i t dx dy
      cases h
      have h1 := hs.evX hc; have h2 := hs.evX hx; have h3 := hs.evX hy
      simp only [VRel, DRel] at h1 h2 h3
      refine ⟨if t = true then a.eval x else a.eval y, fun w' hg => ?_, ?_⟩
      · simp [he, h1, asBool]
      · cases t
        · simpa only [VRel, Bool.false_eq_true, if_false] using h3
        · simpa only [VRel, if_true] using h2
    · rename_i t dx
      have h1 := hs.evX hc; have h2 := hs.evX hx
      simp only [VRel, DRel] at h1 h2
      split at h
      · rename_i ht
        cases h
        exact ⟨a.eval x, fun w' hg => by simp [he, h1, asBool, ht], by simpa only [VRel] using h2⟩
      · cases h
    · rename_i t dy
      have h1 := hs.evX hc; have h3 := hs.evX hy
      simp only [VRel, DRel] at h1 h3
      split at h
      · cases h
      · rename_i ht
        cases h
        exact ⟨a.eval y, fun w' hg => by simp [he, h1, asBool, ht], by simpa only [VRel] using h3⟩
    · cases h
  · rename_i x he
    simp only [Option.bind_eq_some_iff] at h
    obtain ⟨v, hv, h⟩ := h
    have h1 := hs.evX hv
    split at h
    · cases h; simp only [VRel] at h1; obtain ⟨b, hb, h1⟩ := h1; exact ⟨_, fun w' hg => by simp [he, h1]; rfl, by simp only [VRel]; exact ⟨b, hb, rfl⟩⟩
    · cases h; simp only [VRel] at h1; obtain ⟨b, c, hb, h1⟩ := h1; exact ⟨_, fun w' hg => by simp [he, h1]; rfl, by simp only [VRel]; exact ⟨b, c, hb, rfl⟩⟩
    · cases h; simp only [VRel] at h1; obtain ⟨b, o, vs, h1, r⟩ := h1; exact ⟨_, fun w' hg => by simp [he, h1]; rfl, by simp only [VRel]; exact ⟨b, o, vs, rfl, r⟩⟩
    · cases h; simp only [VRel] at h1; obtain ⟨vs, h1, r⟩ := h1; exact ⟨_, fun w' hg => by simp [he, h1]; rfl, by simp only [VRel]; exact ⟨vs, rfl, r⟩⟩
    · cases h
  · rename_i op t x y ty he
    simp only [Option.bind_eq_some_iff] at h
    obtain ⟨vx, hx, vy, hy, h⟩ := h
    have h1 := hs.evX hx; have h2 := hs.evX hy
    have fin : ∀ z', evBin T op t vx vy = some z' → ((∃ c, x = .const c) ∨ (∃ c, y = .const c) ∨ ¬ (vx = .d .nili ∧ vy = .d .nili)) → z = .d z' →
        ∃ v, (∀ w' : World, Agree w w' I (owns s.S L) → (execOp a.eval o).run P w' = .ok (.value v) w') ∧ VRel w I L z v := by
      intro z' hz hn e
      obtain ⟨v, hv, hd⟩ := evBin_ok hT h1 h2 hz
      subst e
      refine ⟨v, fun w' hg => ?_, by simpa only [VRel] using hd⟩
      unfold execOp
      simp [he, guard_ok h1 h2 hz hn, hv]
    split at h
    · split at h
      · simp only [Option.map_eq_some_iff] at h; obtain ⟨z', hz, rfl⟩ := h
        simpa only [execOp] using fin z' hz (.inl ⟨_, rfl⟩) rfl
      · simp only [Option.map_eq_some_iff] at h; obtain ⟨z', hz, rfl⟩ := h
        simpa only [execOp] using fin z' hz (.inr (.inl ⟨_, rfl⟩)) rfl
      · cases h
    · rename_i hno
      simp only [Option.map_eq_some_iff] at h; obtain ⟨z', hz, rfl⟩ := h
      simpa only [execOp] using fin z' hz (.inr (.inr (fun e => hno e.1 e.2))) rfl
  · rename_i op t x he
    simp only [Option.bind_eq_some_iff] at h
    obtain ⟨v, hv, h⟩ := h
    obtain ⟨u, hu, hz⟩ := evUn_ok (P := P) (hs.evX hv) h
    exact ⟨u, fun w' hg => by simp [he, hu], hz⟩
  · rename_i src dst x he
    simp only [Option.bind_eq_some_iff] at h
    obtain ⟨v, hv, h⟩ := h
    obtain ⟨u, hu, hz⟩ := evCv_ok hT hs (hs.evX hv) h
    exact ⟨u, fun w' hg => by simp [he, hu w' hg], hz⟩
  · rename_i f first caps he
    split at h
    · rename_i h0
      simp only [Option.map_eq_some_iff] at h
      obtain ⟨vs, hv, rfl⟩ := h
      have hf : first = #[] := by simpa using h0
      subst hf
      refine ⟨.func (.func f) #[] (caps.map a.eval), fun w' hg => by simp [he, Instr.makeFunc], ?_⟩
      simp only [VRel]
      refine ⟨caps.toList.map a.eval, ?_, hs.evXs hv⟩
      congr 1
      apply Array.ext'
      simp
    · cases h
  · rename_i t x he
    simp only [Option.bind_eq_some_iff] at h
    obtain ⟨v, hv, i, hi, h⟩ := h
    have hI := (hT _ _ hi).kind
    split at h
    · cases h
    · rename_i hno
      cases h
      refine ⟨.iface t (a.eval x), fun w' hg => ?_, by simp only [VRel, DRel]; exact ⟨_, _, rfl⟩⟩
      have : (Instr.makeInterface t (a.eval x)).run P w' = .ok (.iface t (a.eval x)) w' := by
        cases hk : i.kind <;> rw [hk] at hI <;> simp only [TKOk] at hI
        case iface => exact absurd hk hno
        case struct => obtain ⟨f, hf, _⟩ := hI; simp [Instr.makeInterface, runU hf]
        case other =>
          obtain ⟨d, hd, hn⟩ := hI
          cases d <;> simp_all [Instr.makeInterface, run_underlying hd]
        all_goals simp [Instr.makeInterface, runU hI]
      simp [he, this]
  · rename_i t p he
    simp only [Option.bind_eq_some_iff] at h
    obtain ⟨v, hv, h⟩ := h
    obtain ⟨u, hu, hz⟩ := evLd_ok hT hs (hs.evX hv) h
    exact ⟨u, fun w' hg => by simp [he, hu w' hg], hz⟩
  · rename_i t p f he
    simp only [Option.bind_eq_some_iff] at h
    obtain ⟨v, hv, h⟩ := h
    obtain ⟨u, hu, hz⟩ := evFA_ok hT (hs.evX hv) h
    exact ⟨u, fun w' hg => by simp [he, hu], hz⟩
  · rename_i t x f he
    simp only [Option.bind_eq_some_iff] at h
    obtain ⟨v, hv, h⟩ := h
    obtain ⟨u, hu, hz⟩ := evField_ok hT (hs.evX hv) h
    exact ⟨u, fun w' hg => by simp [he, hu], hz⟩
  · rename_i t x i he
    simp only [Option.bind_eq_some_iff] at h
    obtain ⟨v, hv, j, hj, h⟩ := h
    obtain ⟨u, hu, hz⟩ := evIA_ok hT hs (hs.evX hv) (hs.evX hj) h
    exact ⟨u, fun w' hg => by simp [he, hu], hz⟩
  · rename_i t x i he
    simp only [Option.bind_eq_some_iff] at h
    obtain ⟨v, hv, j, hj, h⟩ := h
    obtain ⟨u, hu, hz⟩ := evIx_ok hT (hs.evX hv) (hs.evX hj) h
    exact ⟨u, fun w' hg => by simp [he, hu], hz⟩
  · rename_i t x lo hi he
    simp only [Option.bind_eq_some_iff] at h
    obtain ⟨v, hv, l, hl, m, hm, h⟩ := h
    obtain ⟨u, hu, hz⟩ := evSl_ok hT hs (hs.evX hv) (hs.evOpt hl) (hs.evOpt hm) h
    exact ⟨u, fun w' hg => by simp [he, hu], hz⟩
  · rename_i x i he
    simp only [Option.bind_eq_some_iff] at h
    obtain ⟨v, hv, h⟩ := h
    have h1 := hs.evX hv
    split at h
    · rename_i vs
      simp only [VRel] at h1
      obtain ⟨us, h1, hr⟩ := h1
      obtain ⟨u, hu, hz⟩ := hr.get i z h
      exact ⟨u, fun w' hg => by simp [he, Instr.extract, h1, hu], hz⟩
    · cases h
  · rename_i t x k ok he
    simp only [Option.bind_eq_some_iff] at h
    obtain ⟨v, hv, j, hj, h⟩ := h
    obtain ⟨u, hu, hz⟩ := evLk_ok (P := P) hT hs (hs.evX hv) (hs.evX hj) h
    exact ⟨u, fun w' hg => by simp [he, hu w' fun b hb => hg b hb], hz⟩
  · rename_i b args ts he
    simp only [Option.bind_eq_some_iff] at h
    obtain ⟨vs, hv, h⟩ := h
    obtain ⟨u, hu, hz⟩ := evBu_ok (P := P) hT (ty := o.type) (cs := args.map fun | .const _ => true | _ => false) (hs.evXs hv) h
    refine ⟨u, fun w' hg => ?_, hz⟩
    simp only [he, resolve, Sem.run_bind, Sem.run_pure, Result.andThen_ok, invoke]
    rw [← hu w']
    congr 2
    apply Array.ext'
    simp
  · cases h

theorem evA_ok (hT : TabOk P T) (hs : SR w I L s a) {o : Oper} {z : FV} (h : evA T s o.op = some z) : ∃ v, (execOp a.eval o).run P w = .ok (.value v) w ∧ VRel w I L z v := by
  obtain ⟨v, h1, h2⟩ := evA_all hT hs h
  exact ⟨v, h1 w fun _ _ => rfl, h2⟩


end

/-! ### The rules -/

def wantS (all : Array Oper) (s : St) (o : Oper) : Option Bool := match o.guard with
  | none => some true
  | some (j, want) => match (all[j]?).bind (·.dst) with
    | none => some false
    | some d => match get s.env d with
      | some (.d (.bool b)) => some (b == want)
      | some (.tup []) => some false
      | _ => none

def setS (s : St) (dst : Option Nat) (x : FV) : Option St := match dst with
  | none => some s
  | some d => if d < s.nt then some { s with env := (d, x) :: s.env } else none

section
variable {P : Program} {T : Nat → Option TI} {all : Array Oper} {o : Oper} {rest : List Oper} {s s' : St} {Q : Exit → St → Prop}

theorem SR.want {w : World} {I : Nat → Prop} {L : List Lay} {a : Act} (hs : SR w I L s a) {b : Bool} (h : wantS all s o = some b) : Region.wanted o (yielded all a.tmps) = b := by
  unfold wantS at h
  unfold Region.wanted
  cases hg : o.guard with
  | none => simp [hg] at h; simpa using h
  | some p =>
    obtain ⟨j, want⟩ := p
    simp only [hg] at h
    simp only [yielded]
    cases hd : (all[j]?).bind (·.dst) with
    | none => simp [hd] at h; subst h; simp
    | some d =>
      simp only [hd] at h
      simp only [Option.bind_some]
      split at h
      · rename_i c hc
        have := hs.env _ _ hc
        simp only [VRel, DRel] at this
        cases h
        have hlt : a.tmps[d]? = some (.bool c) := by
          cases hq : a.tmps[d]? with
          | none => simp [Array.getD_eq_getD_getElem?, hq, undef] at this
          | some v => simp [Array.getD_eq_getD_getElem?, hq] at this; rw [this]
        simp [hlt]
      · rename_i hc
        have := hs.env _ _ hc
        simp only [VRel, VRelL] at this
        obtain ⟨vs, hv, rfl⟩ := this
        cases h
        cases hq : a.tmps[d]? with
        | none => simp
        | some v => simp [Array.getD_eq_getD_getElem?, hq] at hv; subst hv; simp
      · cases h

theorem SR.put {w : World} {I : Nat → Prop} {L : List Lay} {a : Act} (hs : SR w I L s a) {dst : Option Nat} {x : FV} {v : Value} (hx : VRel w I L x v) (h : setS s dst x = some s') :
    SR w I L s' (a.put dst v) ∧ s'.S = s.S ∧ s'.pin = s.pin := by
  unfold setS at h
  cases dst with
  | none => cases h; exact ⟨hs, rfl, rfl⟩
  | some d =>
    simp only at h
    split at h
    · rename_i hd
      cases h
      refine ⟨⟨fun t y hy => ?_, ?_, hs.len, hs.obs, hs.nodup, hs.sep, hs.imm, hs.defers⟩, rfl, rfl⟩
      · simp only [get] at hy
        by_cases hdt : d = t
        · rw [if_pos hdt] at hy
          cases hy
          subst hdt
          simp only [Act.put, Array.getD_eq_getD_getElem?, Array.getElem?_setIfInBounds, if_true]
          rw [if_pos (by rw [hs.nt]; exact hd)]
          exact hx
        · rw [if_neg hdt] at hy
          simp only [Act.put, Array.getD_eq_getD_getElem?, Array.getElem?_setIfInBounds, if_neg hdt]
          simpa only [Array.getD_eq_getD_getElem?] using hs.env t y hy
      · simp [Act.put, hs.nt]
    · cases h

theorem WpO.nil (h : Q .normal s) : WpO P all [] s Q := fun _ _ _ _ hs => post_here hs h

theorem WpC.region {id : Nat} {ops : Array Oper} (h : WpO P ops ops.toList s Q) : WpC P (.region id ops false) s Q := fun w I L a hs => wp_region_list (h w I L a hs)

/-- An operation that is not wanted. -/
theorem WpO.skip (hw : wantS all s o = some false) (hset : setS s o.dst (.tup []) = some s') (h : WpO P all rest s' Q) : WpO P all (o :: rest) s Q := fun w I L a hs => by
  unfold wpList
  rw [if_neg (by rw [hs.want hw]; simp)]
  have hx : VRel w I L (.tup []) undef := by simp only [VRel, VRelL]; exact ⟨[], rfl, rfl⟩
  obtain ⟨h1, h2, h3⟩ := hs.put hx hset
  refine wpList_mono (fun e a' w' p => p.from ⟨?_, h3, fun _ _ => rfl⟩) _ _ _ (h w I L _ h1)
  rw [h2]; exact Evo.refl _ _ _

/-- What an operation does, in one word. -/
def OpOk (P : Program) (o : Oper) (s s' : St) : Prop :=
  ∀ w I L a, SR w I L s a → ∃ r w' I' L' v, (execOp a.eval o).run P w = .ok r w' ∧ (r = .value v ∨ r = .skip ∧ v = undef) ∧ SR w' I' L' s' (a.put o.dst v) ∧ Step w I L s w' I' L' s'

theorem WpO.step (hw : wantS all s o = some true) (ho : OpOk P o s s') (h : WpO P all rest s' Q) : WpO P all (o :: rest) s Q := fun w I L a hs => by
  unfold wpList
  rw [if_pos (hs.want hw)]
  obtain ⟨r, w', I', L', v, hr, hv, h1, h2⟩ := ho w I L a hs
  refine .inl ?_
  unfold Oper.wp
  rw [hr]
  have := wpList_mono (fun e a' w' p => Post.from h2 p) _ _ _ (h w' I' L' _ h1)
  rcases hv with rfl | ⟨rfl, rfl⟩ <;> exact this

theorem OpOk.val (hT : TabOk P T) {x : FV} (hx : evA T s o.op = some x) (hset : setS s o.dst x = some s') : OpOk P o s s' := fun w I L a hs => by
  obtain ⟨v, hv, hz⟩ := evA_ok hT hs hx
  obtain ⟨h1, h2, h3⟩ := hs.put hz hset
  refine ⟨_, w, I, L, v, hv, .inl rfl, h1, ⟨?_, h3, fun _ _ => rfl⟩⟩
  rw [h2]; exact Evo.refl _ _ _

end
end Go.Proofs.YtjlamhilnkadcaaGreatDoor.Pay
