/- Regions that draw their order, of operations that turn no memory; calls; rules for often used forms. No statement of the seed is proved here. -/
import Derived.Test.YtjlamhilnkadcaaGreatDoorPayN
import Derived.Deep.Quiet
import Derived.Laws.StructEq
namespace Go.Proofs.YtjlamhilnkadcaaGreatDoor.Pay
open Go Go.RowKit
set_option linter.unusedVariables false
set_option linter.unusedSimpArgs false

section
variable {P : Program} {T : Nat → Option TI} {w w' : World} {I I' : Nat → Prop} {L L' : List Lay} {s s' s1 : St} {a : Act} {all : Array Oper} {o : Oper} {rest : List Oper} {Q : Exit → St → Prop} {c : Code}

/-- Operations that turn no memory, one behind the other. -/
def evPs (T : Nat → Option TI) (all : Array Oper) : List Oper → St → Option St
  | [], s => some s
  | o :: l, s => (wantS all s o).bind fun b => ((if b = true then (evA T s o.op).bind fun x => setS s o.dst x else setS s o.dst (.tup [])) : Option St).bind fun s' => evPs T all l s'

theorem quiet_ok (hT : TabOk P T) : ∀ {l : List Oper} {s s' : St} {a : Act}, SR w I L s a → evPs T all l s = some s' → ∀ {K : Act → Prop}, (∀ a', SR w I L s' a' → s'.S = s.S → s'.pin = s.pin → K a') → wpQuiet P all (· = w) K l a
  | [], s, s', a, hs, h, K, hK => by simp [evPs] at h; subst h; exact hK a hs rfl rfl
  | o :: l, s, s', a, hs, h, K, hK => by
    simp only [evPs, Option.bind_eq_some_iff] at h
    obtain ⟨b, hb, s1, h1, h2⟩ := h
    unfold wpQuiet
    rw [hs.want hb]
    cases b with
    | true =>
      simp only [if_true, Option.bind_eq_some_iff] at h1 ⊢
      obtain ⟨x, hx, hset⟩ := h1
      obtain ⟨v, hv, hr⟩ := evA_ok hT hs hx
      obtain ⟨e1, e2, e3⟩ := hs.put hr hset
      refine ⟨v, fun w' hw' => ?_, ?_⟩
      · subst hw'
        unfold Oper.quietAt
        rw [hv]
        exact ⟨rfl, rfl⟩
      · exact quiet_ok hT e1 h2 fun a' q1 q2 q3 => hK a' q1 (q2.trans e2) (q3.trans e3)
    | false =>
      simp only [Bool.false_eq_true, if_false] at h1 ⊢
      have hx : VRel w I L (.tup []) undef := by simp only [VRel, VRelL]; exact ⟨[], rfl, rfl⟩
      obtain ⟨e1, e2, e3⟩ := hs.put hx h1
      exact quiet_ok hT e1 h2 fun a' q1 q2 q3 => hK a' q1 (q2.trans e2) (q3.trans e3)

/-- A region that draws its order. -/
theorem WpC.opsD (hT : TabOk P T) (hm : P.follows .mixedOrders = true) {id : Nat} {ops : Array Oper} (hB : Region.lexB .any ops = true) (h : evPs T ops ops.toList s = some s') (k : Q .normal s') : WpC P (.region id ops true) s Q := fun w I L a hs => by
  have hw : SR { w with drawn := w.drawn + 1 } I L s a := hs.world (fun _ _ => rfl) (fun _ _ => rfl) (Nat.le_refl _)
  refine wp_region_quiet (C := (· = { w with drawn := w.drawn + 1 })) hm hB rfl ?_
  refine quiet_ok hT hw h fun a' h1 h2 h3 w' hw' => ?_
  subst hw'
  refine ⟨s', I, L, k, h1, ⟨⟨rfl, rfl, rfl, Nat.le_refl _, fun _ _ _ => rfl, fun _ h => h, fun _ h => .inl h, fun b hb => .inl ?_⟩, h3, fun _ _ => rfl⟩⟩
  rwa [h2] at hb

/-! ### Objects handed to a call; ghosts -/

theorem passOk_of {S S1 cS : List Ob} {perm : List Nat} (hS : pickS S perm = some S1) (h2 : renOs (σ0 S.length perm) cS = S1) : PassOk S perm cS := by
  obtain ⟨h3, h4⟩ := pickS_get hS
  refine ⟨by rw [← h3, ← h2, renOs_len], fun j i c hj hc => h4 j i _ hj ?_⟩
  rw [← h2]
  exact renOs_at hc

/-- A call that hands over objects. -/
theorem WpO.callP {fx : Operand} {args : Array Operand} {ts : Array TypeId} {g : FuncId} {caps xs : List FV} (perm : List Nat) (hw : wantS all s o = some true) (ho : o.op = .call { callee := .value fx, args, argTypes := ts })
    (hf : evX s fx = some (.fn g caps)) (hx : evXs s args.toList = some xs) (hc : Callable P g) (hp : s.pin ≤ s.S.length)
    (hn : perm.Nodup) (hlt : ∀ i ∈ perm, i < s.S.length) {cargs : List FV} {cS Sx : List Ob} (ha : ArgsOk s.S perm (xs ++ caps) cargs) (hS : pickS s.S perm = some Sx) (h2 : renOs (σ0 s.S.length perm) cS = Sx)
    {R : FV → List Ob → Prop} (hcall : WpF P g cargs cS R)
    (hrest : ∀ r S1, R r S1 → ∃ s', setS { s with S := setAll s.S perm (renOs (σ1 s.S.length perm) (S1.take perm.length)) ++ renOs (σ1 s.S.length perm) (S1.drop perm.length) } o.dst (ren (σ1 s.S.length perm) r) = some s' ∧ WpO P all rest s' Q) :
    WpO P all (o :: rest) s Q := WpO.call hw ho hf hx hc hp perm hn hlt ha (passOk_of hS h2) hcall hrest

/-- As Gh.pick, all slots kept: none names an object from n on. -/
theorem Gh.pickE (n : Nat) (perm : List Nat) {env : List (Nat × FV)} {S S1 S' : List Ob} {nt pin : Nat} (hb : belowE n env = true) (hid : ∀ i, i < n → perm[i]? = some i) (hn : perm.Nodup) (hlt : ∀ i ∈ perm, i < S.length)
    (hS : pickS S perm = some S1) (h2 : renOs (σ0 S.length perm) S' = S1) (hp : pin ≤ n) : Gh ⟨env, S, nt, pin⟩ ⟨env, S', nt, pin⟩ := by
  have hσ : ∀ i, i < n → σ0 S.length perm i = i := by
    intro i hi
    simp [σ0, List.getD, hid i hi]
  refine Gh.renum (s := ⟨env, S, nt, pin⟩) perm hn hlt (fun t x hx => ?_) (passOk_of hS h2) (fun i hi => hid i (Nat.lt_of_lt_of_le hi hp))
  rw [ren_below hσ (belowE_get hb hx)]
  exact hx

/-- The nil slice in a variable is a row of the call's own. -/
theorem Gh.nilCell {id off t : Nat} {cs : List FV} (e k : Nat) (hS : s.S[id]? = some (.cells t cs)) (hx : cs[off]? = some (.d .nil)) (hp : s.pin ≤ s.S.length) :
    Gh s { s with S := s.S.set id (.cells t (cs.set off (.sl s.S.length 0))) ++ [.arr e k []] } := fun w I L a hs => by
  have hor : ORel w I (L ++ [.a none 0]) (.arr e k []) (.a none 0) := .inl ⟨none, 0, [], rfl, World.ownsRow_nil w 0 e k, by simp [DRelR]⟩
  have r1 := hs.more (w' := w) (fun _ _ => rfl) (Nat.le_refl _) hor (fun b hb => by simp [own] at hb) (own_nodup _ _)
  have r2 := Step.more (w' := w) hs (fun _ _ => rfl) rfl rfl rfl (Nat.le_refl _) (o := .arr e k []) (l := .a none 0) (fun b hb => by simp [own] at hb) hp
  have hlt : id < s.S.length := (List.getElem?_eq_some_iff.1 hS).1
  have hll : id < L.length := by rw [hs.len]; exact hlt
  obtain ⟨l, hl⟩ : ∃ l, L[id]? = some l := ⟨L[id], List.getElem?_eq_getElem hll⟩
  have hown : ∀ l, own (.cells t (cs.set off (.sl s.S.length 0))) l = own (.cells t cs) l := fun l => by cases l <;> rfl
  have howns : owns (s.S.set id (.cells t (cs.set off (.sl s.S.length 0))) ++ [.arr e k []]) (L ++ [.a none 0]) = owns (s.S ++ [.arr e k []]) (L ++ [.a none 0]) := by
    rw [show s.S.set id (.cells t (cs.set off (.sl s.S.length 0))) ++ [Ob.arr e k []] = (s.S ++ [Ob.arr e k []]).set id (.cells t (cs.set off (.sl s.S.length 0))) from (List.set_append_left _ _ hlt).symm]
    exact owns_set (by rw [List.getElem?_append_left hlt]; exact hS) (by rw [List.getElem?_append_left hll]; exact hl) (hown _)
  refine ⟨I, L ++ [.a none 0], ⟨r1.env, r1.nt, by simp [hs.len], ?_, by rw [howns]; exact r1.nodup, by rw [howns]; exact r1.sep, r1.imm, r1.defers⟩, ⟨⟨r2.evo.os, r2.evo.tape, r2.evo.output, r2.evo.size, r2.evo.keep, r2.evo.imm, r2.evo.immNew, by
    show ∀ b ∈ owns (s.S.set id (.cells t (cs.set off (.sl s.S.length 0))) ++ [.arr e k []]) (L ++ [.a none 0]), _
    rw [howns]; exact r2.evo.own⟩, r2.pin, r2.lay⟩⟩
  intro j oj lj h1 h2
  have h1' : (s.S.set id (.cells t (cs.set off (.sl s.S.length 0))) ++ [.arr e k []])[j]? = some oj := h1
  rw [show s.S.set id (.cells t (cs.set off (.sl s.S.length 0))) ++ [Ob.arr e k []] = (s.S ++ [Ob.arr e k []]).set id (.cells t (cs.set off (.sl s.S.length 0))) from (List.set_append_left _ _ hlt).symm] at h1'
  by_cases hj : id = j
  · subst hj
    rw [List.getElem?_set_self (by simp; omega)] at h1'
    cases h1'
    have h3 := r1.obs id (.cells t cs) lj (by show (s.S ++ [_])[id]? = _; rw [List.getElem?_append_left hlt]; exact hS) h2
    obtain ⟨b, vs, rfl, hb, ho, hr⟩ := h3
    refine ⟨b, vs, rfl, hb, ho, ?_⟩
    obtain ⟨v, hv, hd⟩ := hr.get off _ hx
    simp only [VRel, DRel] at hd
    subst hd
    have := hr.set off (x := .sl s.S.length 0) (v := .slice none 0 0) (by
      simp only [VRel]
      exact ⟨.a none 0, none, 0, by rw [List.getElem?_append_right (by rw [hs.len]; exact Nat.le_refl _), hs.len]; simp, rfl, rfl⟩)
    have hsame : vs.set off (Value.slice none 0 0) = vs := by
      apply List.ext_getElem?
      intro q
      rw [List.getElem?_set]
      by_cases hq : off = q
      · subst hq
        rw [if_pos rfl, if_pos (List.getElem?_eq_some_iff.1 hv).1, hv]
      · rw [if_neg hq]
    rwa [hsame] at this
  · rw [List.getElem?_set_ne hj] at h1'
    exact r1.obs j oj lj h1' h2

/-- Two ways come together. -/
theorem WpC.join (st : St) (h : WpC P c s (fun e s1 => e = .normal ∧ Gh s1 st)) (k : Q .normal st) : WpC P c s Q :=
  WpC.post h fun _ _ ⟨he, g⟩ => ⟨st, g, he ▸ k⟩

/-- One operation. -/
def evOne (T : Nat → Option TI) (all : Array Oper) (o : Oper) (s : St) : Option St := (wantS all s o).bind fun b => if b = true then evOp T o s else setS s o.dst (.tup [])

theorem WpO.one (hT : TabOk P T) (h : evOne T all o s = some s') (k : WpO P all rest s' Q) : WpO P all (o :: rest) s Q := by
  simp only [evOne, Option.bind_eq_some_iff] at h
  obtain ⟨b, hb, h1⟩ := h
  cases b with
  | true => exact WpO.step hb (evOp_ok hT (by simpa using h1)) k
  | false => exact WpO.skip hb (by simpa using h1) k

/-! ### Equal structs -/

/-- Structs of type t, of such cells, are compared: b. -/
structure EqT (P : Program) (t : TypeId) (xs ys : List D) (b : Bool) : Prop where
  guard : P.eqGuardType P.depth t = false
  eq : ∀ (w : World) (I : Nat → Prop) (vs us : List Value), DRelL w I xs vs → DRelL w I ys us → (Op.equal t (.agg vs.toArray) (.agg us.toArray)).run P w = .ok b w

def eqOp (neg : Bool) : BinOp := if neg = true then .neq else .eql

theorem WpO.eqS {t ty : TypeId} {x y : Operand} {xs ys : List D} {b : Bool} (neg : Bool) (hw : wantS all s o = some true) (ho : o.op = .binOp (eqOp neg) t x y ty) (hx : evX s x = some (.d (.agg xs))) (hy : evX s y = some (.d (.agg ys)))
    (hE : EqT P t xs ys b) (hset : setS s o.dst (.d (.bool (b ^^ neg))) = some s') (k : WpO P all rest s' Q) : WpO P all (o :: rest) s Q := by
  refine WpO.step hw (fun w I L a hs => ?_) k
  have h1 := hs.evX hx
  have h2 := hs.evX hy
  simp only [VRel, DRel] at h1 h2
  obtain ⟨vs, h1, _, h3⟩ := h1
  obtain ⟨us, h2, _, h4⟩ := h2
  have he := hE.eq w I vs us h3 h4
  have hrun : (execOp a.eval o).run P w = .ok (.value (.bool (b ^^ neg))) w := by
    unfold execOp
    cases neg
    · simp [ho, eqOp, eqGuard, h1, h2, hE.guard, binOp, he]
    · simp [ho, eqOp, eqGuard, h1, h2, hE.guard, binOp, he]
  obtain ⟨e1, e2, e3⟩ := hs.put (x := .d (.bool (b ^^ neg))) (v := .bool (b ^^ neg)) (by simp only [VRel, DRel]) hset
  refine ⟨_, w, I, L, _, hrun, .inl rfl, e1, ⟨?_, e3, fun _ _ => rfl⟩⟩
  rw [e2]; exact Evo.refl _ _ _

/-! ### Data that may be taken for other data -/

def D.leL : List D → List D → Prop
  | [], [] => True
  | x :: r, y :: q => (x = y ∨ (x = .nil ∧ ∃ k, y = .list k [])) ∧ D.leL r q
  | _, _ => False
def FV.le (x y : FV) : Prop := x = y ∨ (x = .d .nil ∧ ∃ k, y = .d (.list k [])) ∨ ∃ cs ds, x = .d (.agg cs) ∧ y = .d (.agg ds) ∧ D.leL cs ds
def leA : List FV → List FV → Prop
  | [], [] => True
  | x :: r, y :: q => FV.le x y ∧ leA r q
  | _, _ => False

theorem nil_list {k : Nat} {v : Value} (h : DRel w I .nil v) : DRel w I (.list k []) v := by
  simp only [DRel] at h ⊢
  exact ⟨none, 0, by simpa using h, by simp, .inl trivial⟩
theorem leL_ok : ∀ {cs ds : List D} {vs : List Value}, D.leL cs ds → DRelL w I cs vs → DRelL w I ds vs
  | [], [], vs, _, h => h
  | x :: r, y :: q, vs, hl, h => by
    simp only [DRelL] at h ⊢
    obtain ⟨v, u, rfl, h1, h2⟩ := h
    refine ⟨v, u, rfl, ?_, leL_ok hl.2 h2⟩
    rcases hl.1 with rfl | ⟨rfl, k, rfl⟩
    · exact h1
    · exact nil_list h1
  | [], _ :: _, _, hl, _ => hl.elim
  | _ :: _, [], _, hl, _ => hl.elim
theorem le_ok {x y : FV} {v : Value} (hl : FV.le x y) (h : VRel w I L x v) : VRel w I L y v := by
  rcases hl with rfl | ⟨rfl, k, rfl⟩ | ⟨cs, ds, rfl, rfl, hl⟩
  · exact h
  · simp only [VRel] at h ⊢; exact nil_list h
  · simp only [VRel, DRel] at h ⊢
    obtain ⟨vs, h1, h2, h3⟩ := h
    exact ⟨vs, h1, h2, leL_ok hl h3⟩
theorem leA_ok : ∀ {xs ys : List FV} {vs : List Value}, leA xs ys → VRelL w I L xs vs → VRelL w I L ys vs
  | [], [], vs, _, h => h
  | x :: r, y :: q, vs, hl, h => by
    simp only [VRelL] at h ⊢
    obtain ⟨v, u, rfl, h1, h2⟩ := h
    exact ⟨v, u, rfl, le_ok hl.1 h1, leA_ok hl.2 h2⟩
  | [], _ :: _, _, hl, _ => hl.elim
  | _ :: _, [], _, hl, _ => hl.elim

theorem WpF.le {f : FuncId} {xs ys : List FV} {S : List Ob} {R : FV → List Ob → Prop} (h : WpF P f ys S R) (hl : leA xs ys) : WpF P f xs S R := fun w I L vs ha hO => h w I L vs (leA_ok hl ha) hO
end
end Go.Proofs.YtjlamhilnkadcaaGreatDoor.Pay
