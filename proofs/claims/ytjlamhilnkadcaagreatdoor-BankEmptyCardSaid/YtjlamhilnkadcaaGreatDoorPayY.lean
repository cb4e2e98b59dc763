/- Rules in the form in which walks are printed. No statement of the seed is proved here. -/
import Derived.Test.YtjlamhilnkadcaaGreatDoorPayX
namespace Go.Proofs.YtjlamhilnkadcaaGreatDoor.Pay
open Go Go.RowKit
set_option linter.unusedSimpArgs false
set_option linter.unusedVariables false

theorem dT {p : Prop} [Decidable p] : (decide p = true) = p := by simp
theorem dF {p : Prop} [Decidable p] : (decide p = false) = ¬ p := by simp

@[simp] theorem take_len_map {α β : Type} (f : α → β) (a : List α) : (a.map f).take a.length = a.map f := List.take_of_length_le (by simp)
@[simp] theorem take_len {α : Type} (a : List α) : a.take a.length = a := List.take_of_length_le (Nat.le_refl _)

/-- Where a function returns data: what it made is data from here on. -/
def retD (T : Nat → Option TI) (res : List ResultVar) (Q : FV → Prop) (e : Exit) (s : St) : Prop :=
  (e = .normal ∨ e = .ret) ∧ ∃ xs ys, retAll T s res = some xs ∧ viewFs true s.S xs = some ys ∧ Q (pack ys)

/-- A function of data, that gives data. -/
def Gives (P : Program) (f : FuncId) (args : List FV) (v : FV) : Prop := WpF P f args [] fun r S => r = v ∧ S = []

section
variable {P : Program} {T : Nat → Option TI} {w w' : World} {I I' : Nat → Prop} {L L' : List Lay} {s s' s1 : St} {a : Act} {all : Array Oper} {o : Oper} {rest : List Oper} {Q : Exit → St → Prop} {c : Code}

theorem view_pack {S : List Ob} {xs ys : List FV} (h : viewFs true S xs = some ys) : viewF true S (pack xs) = some (pack ys) := by
  cases xs with
  | nil => simp [viewFs] at h; subst h; simp [pack, viewF, viewFs]
  | cons x xs =>
    cases xs with
    | nil =>
      simp only [viewFs, Option.bind_eq_some_iff, Option.map_eq_some_iff] at h
      obtain ⟨y, hy, zs, hz, rfl⟩ := h
      cases hz
      simpa [pack] using hy
    | cons x2 xs =>
      have h' := h
      simp only [viewFs, Option.bind_eq_some_iff, Option.map_eq_some_iff] at h'
      obtain ⟨y, hy, zs, ⟨y2, hy2, zs2, hz2, rfl⟩, rfl⟩ := h'
      simp only [pack, viewF]
      rw [h]; rfl

theorem WpF.enterD (hT : TabOk P T) {f : FuncId} {fn : Func} {c : Code} {args : List FV} {Q : FV → Prop} (hf : P.funcs[f]? = some fn) (hb : fn.body = some c) (hn : args.length ≤ fn.ntmps)
    (h : WpC P c ⟨envFrom 0 args, [], fn.ntmps, 0⟩ (retD T fn.results.toList Q)) : WpF P f args [] (fun r S => Q r ∧ S = []) := fun w I L vs ha hO => by
  have hL : L = [] := List.eq_nil_of_length_eq_zero hO.len
  subst hL
  have hvl := ha.length
  have hs : SR w I [] ⟨envFrom 0 args, [], fn.ntmps, 0⟩ { tmps := vs.toArray ++ Array.replicate (fn.ntmps - vs.toArray.size) undef, defers := [] } := by
    refine ⟨fun t x hx => ?_, by simp; omega, hO.len, hO.obs, hO.nodup, hO.sep, hO.imm, rfl⟩
    obtain ⟨i, rfl, hi⟩ := get_envFrom hx
    obtain ⟨v, hv, hz⟩ := ha.get i x hi
    have hlt : i < vs.length := (List.getElem?_eq_some_iff.1 hv).1
    rw [Nat.zero_add, Array.getD_eq_getD_getElem?, Array.getElem?_append_left (by simpa using hlt)]
    simpa [hv] using hz
  refine calls_of_wp hf hb (wp_mono (h w I [] _ hs) fun e a' w' p => ?_)
  obtain ⟨s', I', L', ⟨he, xs, ys, hxs, hys, hq⟩, hs', ⟨st, sp, sl⟩⟩ := p
  obtain ⟨v, hv, hz⟩ := results_run hT hs' hxs
  have hview : VRel w' (lentI I' s'.S L') [] (pack ys) v := viewL_ok hs' [] hz (view_pack hys)
  have hfin : ∃ r v_1 S' I' L', Ending.returned v = .returned v_1 ∧ (Q r ∧ S' = []) ∧ VRel w' I' L' r v_1 ∧ OR w' I' L' S' ∧ Evo w I (owns [] []) w' I' (owns S' L') ∧ ([] : List Ob).length ≤ S'.length ∧ ∀ i : Nat, i < ([] : List Ob).length → L'[i]? = ([] : List Lay)[i]? := by
    refine ⟨pack ys, v, [], lentI I' s'.S L', [], rfl, ⟨hq, rfl⟩, hview, ⟨rfl, fun i o l h => by simp at h, by simp [owns], fun b hb => by simp [owns] at hb, hs'.imm.more (fun b hb => .inl hb) fun b hb => ?_⟩, ⟨st.os, st.tape, st.output, st.size, st.keep, fun b hb => .inl (st.imm b hb), fun b hb => ?_, fun b hb => by simp [owns] at hb⟩, Nat.le_refl _, fun i hi => by simp at hi⟩
    · rcases hb with hb | hb
      · exact hs'.imm b hb
      · exact (hs'.sep b hb).2
    · rcases hb with hb | hb
      · exact st.immNew b hb
      · rcases st.own b hb with h' | h'
        · exact .inr (.inl h')
        · exact .inr (.inr h')
  rcases he with rfl | rfl
  · exact ⟨hs'.defers, v, hv, hfin⟩
  · exact ⟨hs'.defers, v, hv, hfin⟩

/-- r may be taken for v. -/
def leR : FV → FV → Prop
  | .tup xs, .tup ys => leA xs ys
  | x, y => FV.le x y

theorem leR_ok {x y : FV} {v : Value} (hl : leR x y) (h : VRel w I L x v) : VRel w I L y v := by
  unfold leR at hl
  split at hl
  · simp only [VRel] at h ⊢
    obtain ⟨vs, h1, h2⟩ := h
    exact ⟨vs, h1, leA_ok hl h2⟩
  · exact le_ok hl h

theorem Gives.enter (hT : TabOk P T) {f : FuncId} {fn : Func} {c : Code} {args : List FV} {v : FV} (hf : P.funcs[f]? = some fn) (hb : fn.body = some c) (hn : args.length ≤ fn.ntmps)
    (h : WpC P c ⟨envFrom 0 args, [], fn.ntmps, 0⟩ (retD T fn.results.toList (leR · v))) : Gives P f args v := fun w I L vs ha hO =>
  (WpF.enterD hT hf hb hn h w I L vs ha hO).mono fun e w' ⟨r, v', S', I', L', e1, ⟨e2, e3⟩, e4, e5⟩ => ⟨v, v', S', I', L', e1, ⟨rfl, e3⟩, leR_ok e2 e4, e5⟩

theorem retD_i {res : List ResultVar} {Q : FV → Prop} {xs ys : List FV} (h1 : retAll T s res = some xs) (h2 : viewFs true s.S xs = some ys) (hq : Q (pack ys)) : Pay.retD T res Q .ret s := ⟨.inr rfl, xs, ys, h1, h2, hq⟩

/-- A call that is handed data. -/
theorem WpO.data {fx : Operand} {args : Array Operand} {ts : Array TypeId} {g : FuncId} {caps xs cargs : List FV} {v : FV} (h : wantS all s o = some true) (ho : o.op = .call { callee := .value fx, args, argTypes := ts })
    (hf : evX s fx = some (.fn g caps)) (hx : evXs s args.toList = some xs) (hv : viewFs false s.S (xs ++ caps) = some cargs) (hc : Callable P g) (hp : s.pin ≤ s.S.length) (hcall : Gives P g cargs v) (hid : fids v = [])
    (hset : setS s o.dst v = some s1) (k : WpO P all rest s1 Q) : WpO P all (o :: rest) s Q :=
  WpO.callD h ho hf hx hv hc hp hcall fun r S1 hr => by
    obtain ⟨rfl, rfl⟩ := hr
    refine ⟨s1, ?_, k⟩
    rw [ren_id (by simp [hid])]
    simpa [renOs] using hset

/-- A call that is lent rows. -/
theorem WpO.lend {fx : Operand} {args : Array Operand} {ts : Array TypeId} {g : FuncId} {caps xs cargs : List FV} {v : FV} (h : wantS all s o = some true) (ho : o.op = .call { callee := .value fx, args, argTypes := ts })
    (hf : evX s fx = some (.fn g caps)) (hx : evXs s args.toList = some xs) (hv : viewFs true s.S (xs ++ caps) = some cargs) (hc : Callable P g) (hcall : Gives P g cargs v) (hfl : flatR v = true)
    (hset : setS s o.dst v = some s1) (k : WpO P all rest s1 Q) : WpO P all (o :: rest) s Q :=
  WpO.callL h ho hf hx hv hc hcall fun r S1 hr => by
    obtain ⟨rfl, rfl⟩ := hr
    exact ⟨hfl, s1, hset, k⟩

/-- A guard is parted by cases. -/
theorem WpC.condR {r : Option Bool} {b : Bool} {x : Operand} {c1 c2 : Code} (hc : Pay.evB s x = r) (hr : r = some b) (ht : b = true → WpC P c1 s Q) (hf : b = false → WpC P c2 s Q) : WpC P (.cond x c1 c2) s Q := WpC.condP b (hc.trans hr) ht hf
theorem WpO.splitB {r : Option FV} {b : Bool} (d : Nat) (hb0 : get s.env d = r) (hr : r = some (.d (.bool b))) (ht : b = true → WpO P all rest { s with env := (d, .d (.bool true)) :: s.env } Q) (hf : b = false → WpO P all rest { s with env := (d, .d (.bool false)) :: s.env } Q) : WpO P all rest s Q := by
  have hb := hb0.trans hr
  have key : ∀ c, b = c → WpO P all rest { s with env := (d, .d (.bool c)) :: s.env } Q → WpO P all rest s Q := fun c hc h => by
    subst hc
    refine WpO.gh (Gh.slot (x := .d (.bool b)) hb fun _ _ _ _ _ _ hv => hv) h
  cases b
  · exact key false rfl (hf rfl)
  · exact key true rfl (ht rfl)

theorem get_news {t t0 : Nat} (ht : t ≠ t0) : ∀ {env : List (Nat × FV)} {n : Nat} {y : FV}, (env.take n).all (fun p => p.1 == t0 || (get (env.drop n) p.1).isNone) = true → get (env.drop n) t = some y → get env t = some y
  | env, 0, y, _, h => by simpa using h
  | [], n + 1, y, _, h => by simpa using h
  | (k, x) :: r, n + 1, y, hn, h => by
    simp only [List.take_succ_cons, List.drop_succ_cons, List.all_cons, Bool.and_eq_true] at hn h
    simp only [get]
    by_cases hk : k = t
    · subst hk; rw [h] at hn; simp [ht] at hn
    · rw [if_neg hk]; exact get_news ht hn.2 h

/-- The last n news are let go, but for slot t. -/
theorem Gh.only {env env0 : List (Nat × FV)} {S : List Ob} {nt pin : Nat} (t n : Nat) {x : FV} (hx : get env t = some x) (hd : env.drop n = env0) (hn : (env.take n).all (fun p => p.1 == t || (get env0 p.1).isNone) = true) : Gh ⟨env, S, nt, pin⟩ ⟨(t, x) :: env0, S, nt, pin⟩ := by
  subst hd
  refine Gh.forget (s := ⟨env, S, nt, pin⟩) fun t' y hy => ?_
  simp only [get] at hy
  by_cases ht : t = t'
  · rw [if_pos ht] at hy; cases hy; subst ht; exact hx
  · rw [if_neg ht] at hy; exact get_news (Ne.symm ht) hn hy

/-- A piece of code that gives slot t a value, and nothing else that counts. -/
theorem WpC.val (t : Nat) (x : FV) (h : WpC P c s (fun e s1 => e = .normal ∧ Gh s1 { s with env := (t, x) :: s.env })) (k : Q .normal { s with env := (t, x) :: s.env }) : WpC P c s Q := WpC.join _ h k

/-- A loop that counts up to n: ch: the slots that turn, at its head ahead of round k. -/
theorem WpC.loopK {α : Type} (ks cs : List Nat) (n : Nat) (a0 : α) (ch : Nat → α → List (Nat × FV)) (SS : Nat → α → List Ob) (inv : Nat → α → Prop) {env0 : List (Nat × FV)} (he : keepE s.env ks = some env0)
    (h0 : Gh s ⟨ch 0 a0 ++ env0, SS 0 a0, s.nt, s.pin⟩) (hi : inv 0 a0)
    (hr : ∀ k a, k ≤ n → inv k a → WpC P c ⟨ch k a ++ env0, SS k a, s.nt, s.pin⟩ (fun e s' => match e with | .normal => k < n ∧ ∃ a', inv (k + 1) a' ∧ Gh s' ⟨ch (k + 1) a' ++ env0, SS (k + 1) a', s.nt, s.pin⟩ | e => Q e s')) : WpC P (.loop c) s Q := by
  refine WpC.countP n (fun k s' => ∃ a, inv k a ∧ s' = ⟨ch k a ++ env0, SS k a, s.nt, s.pin⟩) ⟨_, h0, a0, hi, rfl⟩ fun k s' hk ⟨a, ha, hs⟩ => ?_
  subst hs
  refine WpC.mono (hr k a hk ha) fun e s1 h => ?_
  cases e with
  | normal => obtain ⟨h1, a', h2, h3⟩ := h; exact ⟨h1, _, h3, a', h2, rfl⟩
  | _ => exact h

/-- A loop with a measure. -/
theorem WpC.loopM {α : Type} (ks cs : List Nat) (m : α → Nat) (a0 : α) (ch : α → List (Nat × FV)) (SS : α → List Ob) (inv : α → Prop) {env0 : List (Nat × FV)} (he : keepE s.env ks = some env0)
    (h0 : Gh s ⟨ch a0 ++ env0, SS a0, s.nt, s.pin⟩) (hi : inv a0)
    (hr : ∀ a, inv a → WpC P c ⟨ch a ++ env0, SS a, s.nt, s.pin⟩ (fun e s' => match e with | .normal => ∃ a', inv a' ∧ m a' < m a ∧ Gh s' ⟨ch a' ++ env0, SS a', s.nt, s.pin⟩ | e => Q e s')) : WpC P (.loop c) s Q := by
  refine WpC.while (fun n s' => ∃ a, inv a ∧ m a = n ∧ s' = ⟨ch a ++ env0, SS a, s.nt, s.pin⟩) (m a0) ⟨_, h0, a0, hi, rfl, rfl⟩ fun n s' ⟨a, ha, hm, hs⟩ => ?_
  subst hs; subst hm
  refine WpC.mono (hr a ha) fun e s1 h => ?_
  cases e with
  | normal => obtain ⟨a', h1, h2, h3⟩ := h; exact ⟨_, h2, _, h3, a', h1, rfl, rfl⟩
  | _ => exact h

theorem run_slice_nil {t e : TypeId} (ht : P.underlying t = some (.slice e)) (b : Option Addr) (n c : Nat) : (binOp .eql t (.slice b n c) (.slice none 0 0)).run P w = .ok (.bool b.isNone) w := by
  refine run_eql_of rfl fun d => ?_
  cases b <;> simp [Op.equalIn, runU ht]

/-- A row is compared with nil: nobody knows. -/
theorem WpO.nilEq (hT : TabOk P T) {t ty : TypeId} {k e : Nat} {xs : List D} {x : Operand} {i : TI} (hw : wantS all s o = some true) (ho : o.op = .binOp .eql t x (.const (.slice none 0 0)) ty) (hi : T t = some i) (hk : i.kind = .slice e) (hx : evX s x = some (.d (.list k xs)))
    (h : ∀ b : Bool, (b = true → xs = []) → ∃ s1, setS s o.dst (.d (.bool b)) = some s1 ∧ WpO P all rest s1 Q) : WpO P all (o :: rest) s Q := fun w I L a hs => by
  have ht := (hT _ _ hi).kind
  rw [hk] at ht
  simp only [TKOk] at ht
  have hv := hs.evX hx
  simp only [VRel, DRel] at hv
  obtain ⟨base, c, hv, hle, hd⟩ := hv
  obtain ⟨s1, hset, hk'⟩ := h base.isNone (fun hb => by
    rcases hd with hd | ⟨b, off, vs, hd, _⟩
    · exact hd
    · subst hd; cases hb)
  unfold wpList
  rw [if_pos (hs.want hw)]
  refine .inl ?_
  have hrun : (execOp a.eval o).run P w = .ok (.value (.bool base.isNone)) w := by
    unfold execOp
    have hc : a.eval (Operand.const (.slice none 0 0)) = .slice none 0 0 := rfl
    simp only [ho, hv, hc, eqGuard_at_slice, Sem.run_bind, Sem.run_pure, Result.andThen_ok, run_slice_nil ht]
  unfold Oper.wp
  rw [hrun]
  obtain ⟨e1, e2, e3⟩ := hs.put (v := .bool base.isNone) (by simp only [VRel, DRel]) hset
  have := hk' w I L _ e1
  refine wpList_mono (fun e a' w' p => p.from ⟨?_, e3, fun _ _ => rfl⟩) _ _ _ this
  rw [e2]; exact Evo.refl _ _ _

/-- What is handed may be known better. -/
theorem Gives.le {f : FuncId} {xs ys : List FV} {v : FV} (h : Gives P f ys v) (hl : leA xs ys) : Gives P f xs v := WpF.le h hl

def frzAt (S : List Ob) (id : Nat) : List Ob := match S[id]? with
  | some (.arr _ k xs) => S.set id (.frz k xs)
  | _ => S
/-- Rows are written no more. -/
theorem Gh.frz : ∀ (ids : List Nat) {s : St}, Gh s { s with S := ids.foldl frzAt s.S }
  | [], s => Gh.refl _
  | id :: r, s => by
    have h1 : Gh s { s with S := frzAt s.S id } := by
      unfold frzAt
      split
      · rename_i e k xs h; exact Gh.freeze h
      · exact Gh.refl _
    exact h1.trans (Gh.frz r (s := { s with S := frzAt s.S id }))
end
/-- In a region that draws its order a guard is parted by cases. -/
theorem DrO.splitB {P : Program} {T : Nat → Option TI} {ops : Array Oper} {l : List Oper} {s : St} {nid : Nat} {tr : List TrC} {K : St → List TrC → Prop} {r : Option FV} {b : Bool} (d : Nat) (hb0 : get s.env d = r) (hr : r = some (.d (.bool b)))
    (ht : b = true → DrO P T ops l s nid tr K) (hf : b = false → DrO P T ops l s nid tr K) : DrO P T ops l s nid tr K := by
  cases b
  · exact hf rfl
  · exact ht rfl
end Go.Proofs.YtjlamhilnkadcaaGreatDoor.Pay
