/- The texts PayY, PayT, PayP, SpF, SpG, SpH, one behind the other. No statement of the seed is proved here. -/
import Derived.Test.YtaobnhenjldjeaaProg
import Derived.KernelRfl
import Derived.Lib.Mul64
import Derived.Laws.Bits64b
import Derived.Test.YtaobnhenjldjeaaMgD
/- Rules in the form in which walks are printed. No statement of the seed is proved here. -/
namespace Go.Proofs.Ytaobnhenjldjeaa.Pay
open Go Go.RowKit
set_option linter.unusedSimpArgs false
set_option linter.unusedVariables false

theorem dT {p : Prop} [Decidable p] : (decide p = true) = p := by simp
theorem dF {p : Prop} [Decidable p] : (decide p = false) = ¬ p := by simp

@[simp] theorem take_len_map {α β : Type} (f : α → β) (a : List α) : (a.map f).take a.length = a.map f := List.take_of_length_le (by simp)
@[simp] theorem take_len {α : Type} (a : List α) : a.take a.length = a := List.take_of_length_le (Nat.le_refl _)

/-- Where a function returns data: what it made is data from here on. -/
def retD (T : Nat → Option TI) (res : List ResultVar) (Q : FV → Prop) (e : Exit) (s : St) : Prop :=
  (e = .normal ∨ e = .ret) ∧ ∃ xs ys, retAll T s res = some xs ∧ viewFs true s.S xs = some ys ∧ Q (pack ys)

/-- A function of data, that gives data. -/
def Gives (P : Program) (f : FuncId) (args : List FV) (v : FV) : Prop := WpF P f args [] fun r S => r = v ∧ S = []

section
variable {P : Program} {T : Nat → Option TI} {w w' : World} {I I' : Nat → Prop} {L L' : List Lay} {s s' s1 : St} {a : Act} {all : Array Oper} {o : Oper} {rest : List Oper} {Q : Exit → St → Prop} {c : Code}

theorem view_pack {S : List Ob} {xs ys : List FV} (h : viewFs true S xs = some ys) : viewF true S (pack xs) = some (pack ys) := by
  cases xs with
  | nil => simp [viewFs] at h; subst h; simp [pack, viewF, viewFs]
  | cons x xs =>
    cases xs with
    | nil =>
      simp only [viewFs, Option.bind_eq_some_iff, Option.map_eq_some_iff] at h
      obtain ⟨y, hy, zs, hz, rfl⟩ := h
      cases hz
      simpa [pack] using hy
    | cons x2 xs =>
      have h' := h
      simp only [viewFs, Option.bind_eq_some_iff, Option.map_eq_some_iff] at h'
      obtain ⟨y, hy, zs, ⟨y2, hy2, zs2, hz2, rfl⟩, rfl⟩ := h'
      simp only [pack, viewF]
      rw [h]; rfl

theorem WpF.enterD (hT : TabOk P T) {f : FuncId} {fn : Func} {c : Code} {args : List FV} {Q : FV → Prop} (hf : P.funcs[f]? = some fn) (hb : fn.body = some c) (hn : args.length ≤ fn.ntmps)
    (h : WpC P c ⟨envFrom 0 args, [], fn.ntmps, 0⟩ (retD T fn.results.toList Q)) : WpF P f args [] (fun r S => Q r ∧ S = []) := fun w I L vs ha hO => by
  have hL : L = [] := List.eq_nil_of_length_eq_zero hO.len
  subst hL
  have hvl := ha.length
  have hs : SR w I [] ⟨envFrom 0 args, [], fn.ntmps, 0⟩ { tmps := vs.toArray ++ Array.replicate (fn.ntmps - vs.toArray.size) undef, defers := [] } := by
    refine ⟨fun t x hx => ?_, by simp; omega, hO.len, hO.obs, hO.nodup, hO.sep, hO.imm, rfl⟩
    obtain ⟨i, rfl, hi⟩ := get_envFrom hx
    obtain ⟨v, hv, hz⟩ := ha.get i x hi
    have hlt : i < vs.length := (List.getElem?_eq_some_iff.1 hv).1
    rw [Nat.zero_add, Array.getD_eq_getD_getElem?, Array.getElem?_append_left (by simpa using hlt)]
    simpa [hv] using hz
  refine calls_of_wp hf hb (wp_mono (h w I [] _ hs) fun e a' w' p => ?_)
  obtain ⟨s', I', L', ⟨he, xs, ys, hxs, hys, hq⟩, hs', ⟨st, sp, sl⟩⟩ := p
  obtain ⟨v, hv, hz⟩ := results_run hT hs' hxs
  have hview : VRel w' (lentI I' s'.S L') [] (pack ys) v := viewL_ok hs' [] hz (view_pack hys)
  have hfin : ∃ r v_1 S' I' L', Ending.returned v = .returned v_1 ∧ (Q r ∧ S' = []) ∧ VRel w' I' L' r v_1 ∧ OR w' I' L' S' ∧ Evo w I (owns [] []) w' I' (owns S' L') ∧ ([] : List Ob).length ≤ S'.length ∧ ∀ i : Nat, i < ([] : List Ob).length → L'[i]? = ([] : List Lay)[i]? := by
    refine ⟨pack ys, v, [], lentI I' s'.S L', [], rfl, ⟨hq, rfl⟩, hview, ⟨rfl, fun i o l h => by simp at h, by simp [owns], fun b hb => by simp [owns] at hb, fun b hb => ?_⟩, ⟨st.os, st.tape, st.output, st.size, st.keep, fun b hb => .inl (st.imm b hb), fun b hb => ?_, fun b hb => by simp [owns] at hb⟩, Nat.le_refl _, fun i hi => by simp at hi⟩
    · rcases hb with hb | hb
      · exact hs'.imm b hb
      · exact (hs'.sep b hb).2
    · rcases hb with hb | hb
      · exact st.immNew b hb
      · rcases st.own b hb with h' | h'
        · exact .inr (.inl h')
        · exact .inr (.inr h')
  rcases he with rfl | rfl
  · exact ⟨hs'.defers, v, hv, hfin⟩
  · exact ⟨hs'.defers, v, hv, hfin⟩

/-- r may be taken for v. -/
def leR : FV → FV → Prop
  | .tup xs, .tup ys => leA xs ys
  | x, y => FV.le x y

theorem leR_ok {x y : FV} {v : Value} (hl : leR x y) (h : VRel w I L x v) : VRel w I L y v := by
  unfold leR at hl
  split at hl
  · simp only [VRel] at h ⊢
    obtain ⟨vs, h1, h2⟩ := h
    exact ⟨vs, h1, leA_ok hl h2⟩
  · exact le_ok hl h

theorem Gives.enter (hT : TabOk P T) {f : FuncId} {fn : Func} {c : Code} {args : List FV} {v : FV} (hf : P.funcs[f]? = some fn) (hb : fn.body = some c) (hn : args.length ≤ fn.ntmps)
    (h : WpC P c ⟨envFrom 0 args, [], fn.ntmps, 0⟩ (retD T fn.results.toList (leR · v))) : Gives P f args v := fun w I L vs ha hO =>
  (WpF.enterD hT hf hb hn h w I L vs ha hO).mono fun e w' ⟨r, v', S', I', L', e1, ⟨e2, e3⟩, e4, e5⟩ => ⟨v, v', S', I', L', e1, ⟨rfl, e3⟩, leR_ok e2 e4, e5⟩

theorem retD_i {res : List ResultVar} {Q : FV → Prop} {xs ys : List FV} (h1 : retAll T s res = some xs) (h2 : viewFs true s.S xs = some ys) (hq : Q (pack ys)) : Pay.retD T res Q .ret s := ⟨.inr rfl, xs, ys, h1, h2, hq⟩

/-- A call that is handed data. -/
theorem WpO.data {fx : Operand} {args : Array Operand} {ts : Array TypeId} {g : FuncId} {caps xs cargs : List FV} {v : FV} (h : wantS all s o = some true) (ho : o.op = .call { callee := .value fx, args, argTypes := ts })
    (hf : evX s fx = some (.fn g caps)) (hx : evXs s args.toList = some xs) (hv : viewFs false s.S (xs ++ caps) = some cargs) (hc : Callable P g) (hp : s.pin ≤ s.S.length) (hcall : Gives P g cargs v) (hid : fids v = [])
    (hset : setS s o.dst v = some s1) (k : WpO P all rest s1 Q) : WpO P all (o :: rest) s Q :=
  WpO.callD h ho hf hx hv hc hp hcall fun r S1 hr => by
    obtain ⟨rfl, rfl⟩ := hr
    refine ⟨s1, ?_, k⟩
    rw [ren_id (by simp [hid])]
    simpa [renOs] using hset

/-- A call that is lent rows. -/
theorem WpO.lend {fx : Operand} {args : Array Operand} {ts : Array TypeId} {g : FuncId} {caps xs cargs : List FV} {v : FV} (h : wantS all s o = some true) (ho : o.op = .call { callee := .value fx, args, argTypes := ts })
    (hf : evX s fx = some (.fn g caps)) (hx : evXs s args.toList = some xs) (hv : viewFs true s.S (xs ++ caps) = some cargs) (hc : Callable P g) (hcall : Gives P g cargs v) (hfl : flatR v = true)
    (hset : setS s o.dst v = some s1) (k : WpO P all rest s1 Q) : WpO P all (o :: rest) s Q :=
  WpO.callL h ho hf hx hv hc hcall fun r S1 hr => by
    obtain ⟨rfl, rfl⟩ := hr
    exact ⟨hfl, s1, hset, k⟩

/-- A guard is parted by cases. -/
theorem WpC.condR {r : Option Bool} {b : Bool} {x : Operand} {c1 c2 : Code} (hc : Pay.evB s x = r) (hr : r = some b) (ht : b = true → WpC P c1 s Q) (hf : b = false → WpC P c2 s Q) : WpC P (.cond x c1 c2) s Q := WpC.condP b (hc.trans hr) ht hf
theorem WpO.splitB {r : Option FV} {b : Bool} (d : Nat) (hb0 : get s.env d = r) (hr : r = some (.d (.bool b))) (ht : b = true → WpO P all rest { s with env := (d, .d (.bool true)) :: s.env } Q) (hf : b = false → WpO P all rest { s with env := (d, .d (.bool false)) :: s.env } Q) : WpO P all rest s Q := by
  have hb := hb0.trans hr
  have key : ∀ c, b = c → WpO P all rest { s with env := (d, .d (.bool c)) :: s.env } Q → WpO P all rest s Q := fun c hc h => by
    subst hc
    refine WpO.gh (Gh.slot (x := .d (.bool b)) hb fun _ _ _ _ _ _ hv => hv) h
  cases b
  · exact key false rfl (hf rfl)
  · exact key true rfl (ht rfl)

theorem get_news {t t0 : Nat} (ht : t ≠ t0) : ∀ {env : List (Nat × FV)} {n : Nat} {y : FV}, (env.take n).all (fun p => p.1 == t0 || (get (env.drop n) p.1).isNone) = true → get (env.drop n) t = some y → get env t = some y
  | env, 0, y, _, h => by simpa using h
  | [], n + 1, y, _, h => by simpa using h
  | (k, x) :: r, n + 1, y, hn, h => by
    simp only [List.take_succ_cons, List.drop_succ_cons, List.all_cons, Bool.and_eq_true] at hn h
    simp only [get]
    by_cases hk : k = t
    · subst hk; rw [h] at hn; simp [ht] at hn
    · rw [if_neg hk]; exact get_news ht hn.2 h

/-- The last n news are let go, but for slot t. -/
theorem Gh.only {env env0 : List (Nat × FV)} {S : List Ob} {nt pin : Nat} (t n : Nat) {x : FV} (hx : get env t = some x) (hd : env.drop n = env0) (hn : (env.take n).all (fun p => p.1 == t || (get env0 p.1).isNone) = true) : Gh ⟨env, S, nt, pin⟩ ⟨(t, x) :: env0, S, nt, pin⟩ := by
  subst hd
  refine Gh.forget (s := ⟨env, S, nt, pin⟩) fun t' y hy => ?_
  simp only [get] at hy
  by_cases ht : t = t'
  · rw [if_pos ht] at hy; cases hy; subst ht; exact hx
  · rw [if_neg ht] at hy; exact get_news (Ne.symm ht) hn hy

/-- A piece of code that gives slot t a value, and nothing else that counts. -/
theorem WpC.val (t : Nat) (x : FV) (h : WpC P c s (fun e s1 => e = .normal ∧ Gh s1 { s with env := (t, x) :: s.env })) (k : Q .normal { s with env := (t, x) :: s.env }) : WpC P c s Q := WpC.join _ h k

/-- A loop that counts up to n: ch: the slots that turn, at its head ahead of round k. -/
theorem WpC.loopK {α : Type} (ks cs : List Nat) (n : Nat) (a0 : α) (ch : Nat → α → List (Nat × FV)) (SS : Nat → α → List Ob) (inv : Nat → α → Prop) {env0 : List (Nat × FV)} (he : keepE s.env ks = some env0)
    (h0 : Gh s ⟨ch 0 a0 ++ env0, SS 0 a0, s.nt, s.pin⟩) (hi : inv 0 a0)
    (hr : ∀ k a, k ≤ n → inv k a → WpC P c ⟨ch k a ++ env0, SS k a, s.nt, s.pin⟩ (fun e s' => match e with | .normal => k < n ∧ ∃ a', inv (k + 1) a' ∧ Gh s' ⟨ch (k + 1) a' ++ env0, SS (k + 1) a', s.nt, s.pin⟩ | e => Q e s')) : WpC P (.loop c) s Q := by
  refine WpC.countP n (fun k s' => ∃ a, inv k a ∧ s' = ⟨ch k a ++ env0, SS k a, s.nt, s.pin⟩) ⟨_, h0, a0, hi, rfl⟩ fun k s' hk ⟨a, ha, hs⟩ => ?_
  subst hs
  refine WpC.mono (hr k a hk ha) fun e s1 h => ?_
  cases e with
  | normal => obtain ⟨h1, a', h2, h3⟩ := h; exact ⟨h1, _, h3, a', h2, rfl⟩
  | _ => exact h

/-- A loop with a measure. -/
theorem WpC.loopM {α : Type} (ks cs : List Nat) (m : α → Nat) (a0 : α) (ch : α → List (Nat × FV)) (SS : α → List Ob) (inv : α → Prop) {env0 : List (Nat × FV)} (he : keepE s.env ks = some env0)
    (h0 : Gh s ⟨ch a0 ++ env0, SS a0, s.nt, s.pin⟩) (hi : inv a0)
    (hr : ∀ a, inv a → WpC P c ⟨ch a ++ env0, SS a, s.nt, s.pin⟩ (fun e s' => match e with | .normal => ∃ a', inv a' ∧ m a' < m a ∧ Gh s' ⟨ch a' ++ env0, SS a', s.nt, s.pin⟩ | e => Q e s')) : WpC P (.loop c) s Q := by
  refine WpC.while (fun n s' => ∃ a, inv a ∧ m a = n ∧ s' = ⟨ch a ++ env0, SS a, s.nt, s.pin⟩) (m a0) ⟨_, h0, a0, hi, rfl, rfl⟩ fun n s' ⟨a, ha, hm, hs⟩ => ?_
  subst hs; subst hm
  refine WpC.mono (hr a ha) fun e s1 h => ?_
  cases e with
  | normal => obtain ⟨a', h1, h2, h3⟩ := h; exact ⟨_, h2, _, h3, a', h1, rfl, rfl⟩
  | _ => exact h

theorem run_slice_nil {t e : TypeId} (ht : P.underlying t = some (.slice e)) (b : Option Addr) (n c : Nat) : (binOp .eql t (.slice b n c) (.slice none 0 0)).run P w = .ok (.bool b.isNone) w := by
  refine run_eql_of rfl fun d => ?_
  cases b <;> simp [Op.equalIn, runU ht]

/-- A row is compared with nil: nobody knows. -/
theorem WpO.nilEq (hT : TabOk P T) {t ty : TypeId} {k e : Nat} {xs : List D} {x : Operand} {i : TI} (hw : wantS all s o = some true) (ho : o.op = .binOp .eql t x (.const (.slice none 0 0)) ty) (hi : T t = some i) (hk : i.kind = .slice e) (hx : evX s x = some (.d (.list k xs)))
    (h : ∀ b : Bool, (b = true → xs = []) → ∃ s1, setS s o.dst (.d (.bool b)) = some s1 ∧ WpO P all rest s1 Q) : WpO P all (o :: rest) s Q := fun w I L a hs => by
  have ht := (hT _ _ hi).kind
  rw [hk] at ht
  simp only [TKOk] at ht
  have hv := hs.evX hx
  simp only [VRel, DRel] at hv
  obtain ⟨base, c, hv, hle, hd⟩ := hv
  obtain ⟨s1, hset, hk'⟩ := h base.isNone (fun hb => by
    rcases hd with hd | ⟨b, off, vs, hd, _⟩
    · exact hd
    · subst hd; cases hb)
  unfold wpList
  rw [if_pos (hs.want hw)]
  refine .inl ?_
  have hrun : (execOp a.eval o).run P w = .ok (.value (.bool base.isNone)) w := by
    unfold execOp
    have hc : a.eval (Operand.const (.slice none 0 0)) = .slice none 0 0 := rfl
    simp only [ho, hv, hc, eqGuard_at_slice, Sem.run_bind, Sem.run_pure, Result.andThen_ok, run_slice_nil ht]
  unfold Oper.wp
  rw [hrun]
  obtain ⟨e1, e2, e3⟩ := hs.put (v := .bool base.isNone) (by simp only [VRel, DRel]) hset
  have := hk' w I L _ e1
  refine wpList_mono (fun e a' w' p => p.from ⟨?_, e3, fun _ _ => rfl⟩) _ _ _ this
  rw [e2]; exact Evo.refl _ _ _

/-- What is handed may be known better. -/
theorem Gives.le {f : FuncId} {xs ys : List FV} {v : FV} (h : Gives P f ys v) (hl : leA xs ys) : Gives P f xs v := WpF.le h hl

def frzAt (S : List Ob) (id : Nat) : List Ob := match S[id]? with
  | some (.arr _ k xs) => S.set id (.frz k xs)
  | _ => S
/-- Rows are written no more. -/
theorem Gh.frz : ∀ (ids : List Nat) {s : St}, Gh s { s with S := ids.foldl frzAt s.S }
  | [], s => Gh.refl _
  | id :: r, s => by
    have h1 : Gh s { s with S := frzAt s.S id } := by
      unfold frzAt
      split
      · rename_i e k xs h; exact Gh.freeze h
      · exact Gh.refl _
    exact h1.trans (Gh.frz r (s := { s with S := frzAt s.S id }))
end
/-- In a region that draws its order a guard is parted by cases. -/
theorem DrO.splitB {P : Program} {T : Nat → Option TI} {ops : Array Oper} {l : List Oper} {s : St} {nid : Nat} {tr : List TrC} {K : St → List TrC → Prop} {r : Option FV} {b : Bool} (d : Nat) (hb0 : get s.env d = r) (hr : r = some (.d (.bool b)))
    (ht : b = true → DrO P T ops l s nid tr K) (hf : b = false → DrO P T ops l s nid tr K) : DrO P T ops l s nid tr K := by
  cases b
  · exact hf rfl
  · exact ht rfl
end Go.Proofs.Ytaobnhenjldjeaa.Pay
/- The table of types. Written by tab.py. -/
namespace Go.Proofs.Ytaobnhenjldjeaa.Pay
open Go Go.Proofs
def lookT : List (Nat × TI) → Nat → Option TI
  | [], _ => none
  | (s, v) :: r, t => if s = t then some v else lookT r t
def AllT (P : Program) : List (Nat × TI) → Prop
  | [] => True
  | p :: r => TIOk P p.1 p.2 ∧ AllT P r
theorem allT {P : Program} : ∀ {l : List (Nat × TI)} {t : Nat} {i : TI}, AllT P l → lookT l t = some i → TIOk P t i
  | [], _, _, _, h => by simp [lookT] at h
  | (s, v) :: r, t, i, ha, h => by
    unfold lookT at h
    by_cases hs : s = t
    · rw [if_pos hs] at h; cases h; subst hs; exact ha.1
    · rw [if_neg hs] at h; exact allT ha.2 h
theorem TIOk.of {P : Program} {t : Nat} {i : TI} (hk : TKOk P t i.kind) (h : (P.info? t).isSome = true) (h1 : ((P.info? t).get h).size = i.size) (h2 : ((P.info? t).get h).bytes = i.bytes)
    (h3 : ((P.info? t).get h).zero.isSome = true) (h4 : ofLeaves (((P.info? t).get h).zero.get h3).cells.toList = some i.zero) (h5 : (((P.info? t).get h).zero.get h3).cells.size = i.size) : TIOk P t i :=
  ⟨hk, _, _, (Option.some_get h).symm, h1, h2, (Option.some_get h3).symm, h4, h5⟩
def ti2 : TI := ⟨.int .i64, 1, 8, [.int .i64 0]⟩
theorem tiok2 : TIOk Try.prog 2 ti2 := TIOk.of (Try.underlying2) (by kernel_rfl) (by kernel_rfl) (by kernel_rfl) (by kernel_rfl) (by kernel_rfl) (by kernel_rfl)
def ti3 : TI := ⟨.int .i64, 1, 8, [.int .i64 0]⟩
theorem tiok3 : TIOk Try.prog 3 ti3 := TIOk.of (Try.underlying3) (by kernel_rfl) (by kernel_rfl) (by kernel_rfl) (by kernel_rfl) (by kernel_rfl) (by kernel_rfl)
def ti4 : TI := ⟨.bool, 1, 1, [.bool false]⟩
theorem tiok4 : TIOk Try.prog 4 ti4 := TIOk.of (Try.underlying4) (by kernel_rfl) (by kernel_rfl) (by kernel_rfl) (by kernel_rfl) (by kernel_rfl) (by kernel_rfl)
def ti5 : TI := ⟨.int .u8, 1, 1, [.int .u8 0]⟩
theorem tiok5 : TIOk Try.prog 5 ti5 := TIOk.of (Try.underlying5) (by kernel_rfl) (by kernel_rfl) (by kernel_rfl) (by kernel_rfl) (by kernel_rfl) (by kernel_rfl)
def ti6 : TI := ⟨.int .u8, 1, 1, [.int .u8 0]⟩
theorem tiok6 : TIOk Try.prog 6 ti6 := TIOk.of (Try.underlying6) (by kernel_rfl) (by kernel_rfl) (by kernel_rfl) (by kernel_rfl) (by kernel_rfl) (by kernel_rfl)
def ti7 : TI := ⟨.struct [(0, 2), (1, 3), (2, 4), (3, 6)], 4, 24, [.int .i64 0, .int .i64 0, .bool false, .int .u8 0]⟩
theorem tiok7 : TIOk Try.prog 7 ti7 := TIOk.of ⟨_, Try.underlying7, rfl⟩ (by kernel_rfl) (by kernel_rfl) (by kernel_rfl) (by kernel_rfl) (by kernel_rfl) (by kernel_rfl)
def ti8 : TI := ⟨.struct [(0, 2), (1, 3), (2, 4), (3, 6)], 4, 24, [.int .i64 0, .int .i64 0, .bool false, .int .u8 0]⟩
theorem tiok8 : TIOk Try.prog 8 ti8 := TIOk.of ⟨_, Try.underlying8, rfl⟩ (by kernel_rfl) (by kernel_rfl) (by kernel_rfl) (by kernel_rfl) (by kernel_rfl) (by kernel_rfl)
def ti9 : TI := ⟨.str, 1, 16, [.str []]⟩
theorem tiok9 : TIOk Try.prog 9 ti9 := TIOk.of (Try.underlying9) (by kernel_rfl) (by kernel_rfl) (by kernel_rfl) (by kernel_rfl) (by kernel_rfl) (by kernel_rfl)
def ti10 : TI := ⟨.str, 1, 16, [.str []]⟩
theorem tiok10 : TIOk Try.prog 10 ti10 := TIOk.of (Try.underlying10) (by kernel_rfl) (by kernel_rfl) (by kernel_rfl) (by kernel_rfl) (by kernel_rfl) (by kernel_rfl)
def ti11 : TI := ⟨.str, 1, 16, [.str []]⟩
theorem tiok11 : TIOk Try.prog 11 ti11 := TIOk.of (Try.underlying11) (by kernel_rfl) (by kernel_rfl) (by kernel_rfl) (by kernel_rfl) (by kernel_rfl) (by kernel_rfl)
def ti12 : TI := ⟨.int .u64, 1, 8, [.int .u64 0]⟩
theorem tiok12 : TIOk Try.prog 12 ti12 := TIOk.of (Try.underlying12) (by kernel_rfl) (by kernel_rfl) (by kernel_rfl) (by kernel_rfl) (by kernel_rfl) (by kernel_rfl)
def ti13 : TI := ⟨.struct [(0, 9), (1, 12)], 2, 24, [.str [], .int .u64 0]⟩
theorem tiok13 : TIOk Try.prog 13 ti13 := TIOk.of ⟨_, Try.underlying13, rfl⟩ (by kernel_rfl) (by kernel_rfl) (by kernel_rfl) (by kernel_rfl) (by kernel_rfl) (by kernel_rfl)
def ti14 : TI := ⟨.struct [(0, 9), (1, 12)], 2, 24, [.str [], .int .u64 0]⟩
theorem tiok14 : TIOk Try.prog 14 ti14 := TIOk.of ⟨_, Try.underlying14, rfl⟩ (by kernel_rfl) (by kernel_rfl) (by kernel_rfl) (by kernel_rfl) (by kernel_rfl) (by kernel_rfl)
def ti15 : TI := ⟨.ptr 112, 1, 8, [.nilp]⟩
theorem tiok15 : TIOk Try.prog 15 ti15 := TIOk.of (Try.underlying15) (by kernel_rfl) (by kernel_rfl) (by kernel_rfl) (by kernel_rfl) (by kernel_rfl) (by kernel_rfl)
def ti16 : TI := ⟨.ptr 115, 1, 8, [.nilp]⟩
theorem tiok16 : TIOk Try.prog 16 ti16 := TIOk.of (Try.underlying16) (by kernel_rfl) (by kernel_rfl) (by kernel_rfl) (by kernel_rfl) (by kernel_rfl) (by kernel_rfl)
def ti17 : TI := ⟨.ptr 124, 1, 8, [.nilp]⟩
theorem tiok17 : TIOk Try.prog 17 ti17 := TIOk.of (Try.underlying17) (by kernel_rfl) (by kernel_rfl) (by kernel_rfl) (by kernel_rfl) (by kernel_rfl) (by kernel_rfl)
def ti18 : TI := ⟨.struct [(0, 17)], 1, 8, [.nilp]⟩
theorem tiok18 : TIOk Try.prog 18 ti18 := TIOk.of ⟨_, Try.underlying18, rfl⟩ (by kernel_rfl) (by kernel_rfl) (by kernel_rfl) (by kernel_rfl) (by kernel_rfl) (by kernel_rfl)
def ti19 : TI := ⟨.struct [(0, 17)], 1, 8, [.nilp]⟩
theorem tiok19 : TIOk Try.prog 19 ti19 := TIOk.of ⟨_, Try.underlying19, rfl⟩ (by kernel_rfl) (by kernel_rfl) (by kernel_rfl) (by kernel_rfl) (by kernel_rfl) (by kernel_rfl)
def ti20 : TI := ⟨.iface, 1, 16, [.nili]⟩
theorem tiok20 : TIOk Try.prog 20 ti20 := TIOk.of ⟨_, Try.underlying20⟩ (by kernel_rfl) (by kernel_rfl) (by kernel_rfl) (by kernel_rfl) (by kernel_rfl) (by kernel_rfl)
def ti21 : TI := ⟨.int .i32, 1, 4, [.int .i32 0]⟩
theorem tiok21 : TIOk Try.prog 21 ti21 := TIOk.of (Try.underlying21) (by kernel_rfl) (by kernel_rfl) (by kernel_rfl) (by kernel_rfl) (by kernel_rfl) (by kernel_rfl)
def ti22 : TI := ⟨.slice 35, 1, 24, [.nil]⟩
theorem tiok22 : TIOk Try.prog 22 ti22 := TIOk.of (Try.underlying22) (by kernel_rfl) (by kernel_rfl) (by kernel_rfl) (by kernel_rfl) (by kernel_rfl) (by kernel_rfl)
def ti24 : TI := ⟨.slice 3, 1, 24, [.nil]⟩
theorem tiok24 : TIOk Try.prog 24 ti24 := TIOk.of (Try.underlying24) (by kernel_rfl) (by kernel_rfl) (by kernel_rfl) (by kernel_rfl) (by kernel_rfl) (by kernel_rfl)
def ti25 : TI := ⟨.int .i64, 1, 8, [.int .i64 0]⟩
theorem tiok25 : TIOk Try.prog 25 ti25 := TIOk.of (Try.underlying25) (by kernel_rfl) (by kernel_rfl) (by kernel_rfl) (by kernel_rfl) (by kernel_rfl) (by kernel_rfl)
def ti34 : TI := ⟨.struct [(0, 3), (1, 3), (2, 3), (3, 3)], 4, 32, [.int .i64 0, .int .i64 0, .int .i64 0, .int .i64 0]⟩
theorem tiok34 : TIOk Try.prog 34 ti34 := TIOk.of ⟨_, Try.underlying34, rfl⟩ (by kernel_rfl) (by kernel_rfl) (by kernel_rfl) (by kernel_rfl) (by kernel_rfl) (by kernel_rfl)
def ti35 : TI := ⟨.struct [(0, 3), (1, 3), (2, 3), (3, 3)], 4, 32, [.int .i64 0, .int .i64 0, .int .i64 0, .int .i64 0]⟩
theorem tiok35 : TIOk Try.prog 35 ti35 := TIOk.of ⟨_, Try.underlying35, rfl⟩ (by kernel_rfl) (by kernel_rfl) (by kernel_rfl) (by kernel_rfl) (by kernel_rfl) (by kernel_rfl)
def ti38 : TI := ⟨.int .u32, 1, 4, [.int .u32 0]⟩
theorem tiok38 : TIOk Try.prog 38 ti38 := TIOk.of (Try.underlying38) (by kernel_rfl) (by kernel_rfl) (by kernel_rfl) (by kernel_rfl) (by kernel_rfl) (by kernel_rfl)
def ti64 : TI := ⟨.int .u64, 1, 8, [.int .u64 0]⟩
theorem tiok64 : TIOk Try.prog 64 ti64 := TIOk.of (Try.underlying64) (by kernel_rfl) (by kernel_rfl) (by kernel_rfl) (by kernel_rfl) (by kernel_rfl) (by kernel_rfl)
def ti67 : TI := ⟨.int .u64, 1, 8, [.int .u64 0]⟩
theorem tiok67 : TIOk Try.prog 67 ti67 := TIOk.of (Try.underlying67) (by kernel_rfl) (by kernel_rfl) (by kernel_rfl) (by kernel_rfl) (by kernel_rfl) (by kernel_rfl)
def ti76 : TI := ⟨.struct [(0, 4), (1, 24)], 2, 32, [.bool false, .nil]⟩
theorem tiok76 : TIOk Try.prog 76 ti76 := TIOk.of ⟨_, Try.underlying76, rfl⟩ (by kernel_rfl) (by kernel_rfl) (by kernel_rfl) (by kernel_rfl) (by kernel_rfl) (by kernel_rfl)
def ti77 : TI := ⟨.struct [(0, 4), (1, 24)], 2, 32, [.bool false, .nil]⟩
theorem tiok77 : TIOk Try.prog 77 ti77 := TIOk.of ⟨_, Try.underlying77, rfl⟩ (by kernel_rfl) (by kernel_rfl) (by kernel_rfl) (by kernel_rfl) (by kernel_rfl) (by kernel_rfl)
def ti84 : TI := ⟨.int .i64, 1, 8, [.int .i64 0]⟩
theorem tiok84 : TIOk Try.prog 84 ti84 := TIOk.of (Try.underlying84) (by kernel_rfl) (by kernel_rfl) (by kernel_rfl) (by kernel_rfl) (by kernel_rfl) (by kernel_rfl)
def ti93 : TI := ⟨.iface, 1, 16, [.nili]⟩
theorem tiok93 : TIOk Try.prog 93 ti93 := TIOk.of ⟨_, Try.underlying93⟩ (by kernel_rfl) (by kernel_rfl) (by kernel_rfl) (by kernel_rfl) (by kernel_rfl) (by kernel_rfl)
def ti94 : TI := ⟨.iface, 1, 16, [.nili]⟩
theorem tiok94 : TIOk Try.prog 94 ti94 := TIOk.of ⟨_, Try.underlying94⟩ (by kernel_rfl) (by kernel_rfl) (by kernel_rfl) (by kernel_rfl) (by kernel_rfl) (by kernel_rfl)
def ti100 : TI := ⟨.int .u64, 1, 8, [.int .u64 0]⟩
theorem tiok100 : TIOk Try.prog 100 ti100 := TIOk.of (Try.underlying100) (by kernel_rfl) (by kernel_rfl) (by kernel_rfl) (by kernel_rfl) (by kernel_rfl) (by kernel_rfl)
def ti104 : TI := ⟨.ptr 3, 1, 8, [.nilp]⟩
theorem tiok104 : TIOk Try.prog 104 ti104 := TIOk.of (Try.underlying104) (by kernel_rfl) (by kernel_rfl) (by kernel_rfl) (by kernel_rfl) (by kernel_rfl) (by kernel_rfl)
def ti106 : TI := ⟨.ptr 100, 1, 8, [.nilp]⟩
theorem tiok106 : TIOk Try.prog 106 ti106 := TIOk.of (Try.underlying106) (by kernel_rfl) (by kernel_rfl) (by kernel_rfl) (by kernel_rfl) (by kernel_rfl) (by kernel_rfl)
def ti109 : TI := ⟨.ptr 126, 1, 8, [.nilp]⟩
theorem tiok109 : TIOk Try.prog 109 ti109 := TIOk.of (Try.underlying109) (by kernel_rfl) (by kernel_rfl) (by kernel_rfl) (by kernel_rfl) (by kernel_rfl) (by kernel_rfl)
def ti111 : TI := ⟨.struct [(0, 17), (1, 17), (2, 17), (3, 9)], 4, 40, [.nilp, .nilp, .nilp, .str []]⟩
theorem tiok111 : TIOk Try.prog 111 ti111 := TIOk.of ⟨_, Try.underlying111, rfl⟩ (by kernel_rfl) (by kernel_rfl) (by kernel_rfl) (by kernel_rfl) (by kernel_rfl) (by kernel_rfl)
def ti112 : TI := ⟨.struct [(0, 17), (1, 17), (2, 17), (3, 9)], 4, 40, [.nilp, .nilp, .nilp, .str []]⟩
theorem tiok112 : TIOk Try.prog 112 ti112 := TIOk.of ⟨_, Try.underlying112, rfl⟩ (by kernel_rfl) (by kernel_rfl) (by kernel_rfl) (by kernel_rfl) (by kernel_rfl) (by kernel_rfl)
def ti113 : TI := ⟨.array 0 16, 0, 0, []⟩
theorem tiok113 : TIOk Try.prog 113 ti113 := TIOk.of (Try.underlying113) (by kernel_rfl) (by kernel_rfl) (by kernel_rfl) (by kernel_rfl) (by kernel_rfl) (by kernel_rfl)
def ti114 : TI := ⟨.struct [(0, 113)], 0, 0, []⟩
theorem tiok114 : TIOk Try.prog 114 ti114 := TIOk.of ⟨_, Try.underlying114, rfl⟩ (by kernel_rfl) (by kernel_rfl) (by kernel_rfl) (by kernel_rfl) (by kernel_rfl) (by kernel_rfl)
def ti115 : TI := ⟨.struct [(0, 113)], 0, 0, []⟩
theorem tiok115 : TIOk Try.prog 115 ti115 := TIOk.of ⟨_, Try.underlying115, rfl⟩ (by kernel_rfl) (by kernel_rfl) (by kernel_rfl) (by kernel_rfl) (by kernel_rfl) (by kernel_rfl)
def ti117 : TI := ⟨.int .u8, 1, 1, [.int .u8 0]⟩
theorem tiok117 : TIOk Try.prog 117 ti117 := TIOk.of (Try.underlying117) (by kernel_rfl) (by kernel_rfl) (by kernel_rfl) (by kernel_rfl) (by kernel_rfl) (by kernel_rfl)
def ti118 : TI := ⟨.int .u8, 1, 1, [.int .u8 0]⟩
theorem tiok118 : TIOk Try.prog 118 ti118 := TIOk.of (Try.underlying118) (by kernel_rfl) (by kernel_rfl) (by kernel_rfl) (by kernel_rfl) (by kernel_rfl) (by kernel_rfl)
def ti120 : TI := ⟨.ptr 5, 1, 8, [.nilp]⟩
theorem tiok120 : TIOk Try.prog 120 ti120 := TIOk.of (Try.underlying120) (by kernel_rfl) (by kernel_rfl) (by kernel_rfl) (by kernel_rfl) (by kernel_rfl) (by kernel_rfl)
def ti121 : TI := ⟨.int .i32, 1, 4, [.int .i32 0]⟩
theorem tiok121 : TIOk Try.prog 121 ti121 := TIOk.of (Try.underlying121) (by kernel_rfl) (by kernel_rfl) (by kernel_rfl) (by kernel_rfl) (by kernel_rfl) (by kernel_rfl)
def ti122 : TI := ⟨.int .i32, 1, 4, [.int .i32 0]⟩
theorem tiok122 : TIOk Try.prog 122 ti122 := TIOk.of (Try.underlying122) (by kernel_rfl) (by kernel_rfl) (by kernel_rfl) (by kernel_rfl) (by kernel_rfl) (by kernel_rfl)
def ti125 : TI := ⟨.struct [(0, 9)], 1, 16, [.str []]⟩
theorem tiok125 : TIOk Try.prog 125 ti125 := TIOk.of ⟨_, Try.underlying125, rfl⟩ (by kernel_rfl) (by kernel_rfl) (by kernel_rfl) (by kernel_rfl) (by kernel_rfl) (by kernel_rfl)
def ti126 : TI := ⟨.struct [(0, 9)], 1, 16, [.str []]⟩
theorem tiok126 : TIOk Try.prog 126 ti126 := TIOk.of ⟨_, Try.underlying126, rfl⟩ (by kernel_rfl) (by kernel_rfl) (by kernel_rfl) (by kernel_rfl) (by kernel_rfl) (by kernel_rfl)
def tabL : List (Nat × TI) := [(2, ti2), (3, ti3), (4, ti4), (5, ti5), (6, ti6), (7, ti7), (8, ti8), (9, ti9), (10, ti10), (11, ti11), (12, ti12), (13, ti13), (14, ti14), (15, ti15), (16, ti16), (17, ti17), (18, ti18), (19, ti19), (20, ti20), (21, ti21), (22, ti22), (24, ti24), (25, ti25), (34, ti34), (35, ti35), (38, ti38), (64, ti64), (67, ti67), (76, ti76), (77, ti77), (84, ti84), (93, ti93), (94, ti94), (100, ti100), (104, ti104), (106, ti106), (109, ti109), (111, ti111), (112, ti112), (113, ti113), (114, ti114), (115, ti115), (117, ti117), (118, ti118), (120, ti120), (121, ti121), (122, ti122), (125, ti125), (126, ti126)]
def tab (t : Nat) : Option TI := lookT tabL t
theorem tabOk : TabOk Try.prog tab := fun _ _ h => allT (show AllT Try.prog tabL from ⟨tiok2, tiok3, tiok4, tiok5, tiok6, tiok7, tiok8, tiok9, tiok10, tiok11, tiok12, tiok13, tiok14, tiok15, tiok16, tiok17, tiok18, tiok19, tiok20, tiok21, tiok22, tiok24, tiok25, tiok34, tiok35, tiok38, tiok64, tiok67, tiok76, tiok77, tiok84, tiok93, tiok94, tiok100, tiok104, tiok106, tiok109, tiok111, tiok112, tiok113, tiok114, tiok115, tiok117, tiok118, tiok120, tiok121, tiok122, tiok125, tiok126, trivial⟩) h
@[simp] theorem tab_2 : tab 2 = some ⟨.int .i64, 1, 8, [.int .i64 0]⟩ := rfl
@[simp] theorem tab_3 : tab 3 = some ⟨.int .i64, 1, 8, [.int .i64 0]⟩ := rfl
@[simp] theorem tab_4 : tab 4 = some ⟨.bool, 1, 1, [.bool false]⟩ := rfl
@[simp] theorem tab_5 : tab 5 = some ⟨.int .u8, 1, 1, [.int .u8 0]⟩ := rfl
@[simp] theorem tab_6 : tab 6 = some ⟨.int .u8, 1, 1, [.int .u8 0]⟩ := rfl
@[simp] theorem tab_7 : tab 7 = some ⟨.struct [(0, 2), (1, 3), (2, 4), (3, 6)], 4, 24, [.int .i64 0, .int .i64 0, .bool false, .int .u8 0]⟩ := rfl
@[simp] theorem tab_8 : tab 8 = some ⟨.struct [(0, 2), (1, 3), (2, 4), (3, 6)], 4, 24, [.int .i64 0, .int .i64 0, .bool false, .int .u8 0]⟩ := rfl
@[simp] theorem tab_9 : tab 9 = some ⟨.str, 1, 16, [.str []]⟩ := rfl
@[simp] theorem tab_10 : tab 10 = some ⟨.str, 1, 16, [.str []]⟩ := rfl
@[simp] theorem tab_11 : tab 11 = some ⟨.str, 1, 16, [.str []]⟩ := rfl
@[simp] theorem tab_12 : tab 12 = some ⟨.int .u64, 1, 8, [.int .u64 0]⟩ := rfl
@[simp] theorem tab_13 : tab 13 = some ⟨.struct [(0, 9), (1, 12)], 2, 24, [.str [], .int .u64 0]⟩ := rfl
@[simp] theorem tab_14 : tab 14 = some ⟨.struct [(0, 9), (1, 12)], 2, 24, [.str [], .int .u64 0]⟩ := rfl
@[simp] theorem tab_15 : tab 15 = some ⟨.ptr 112, 1, 8, [.nilp]⟩ := rfl
@[simp] theorem tab_16 : tab 16 = some ⟨.ptr 115, 1, 8, [.nilp]⟩ := rfl
@[simp] theorem tab_17 : tab 17 = some ⟨.ptr 124, 1, 8, [.nilp]⟩ := rfl
@[simp] theorem tab_18 : tab 18 = some ⟨.struct [(0, 17)], 1, 8, [.nilp]⟩ := rfl
@[simp] theorem tab_19 : tab 19 = some ⟨.struct [(0, 17)], 1, 8, [.nilp]⟩ := rfl
@[simp] theorem tab_20 : tab 20 = some ⟨.iface, 1, 16, [.nili]⟩ := rfl
@[simp] theorem tab_21 : tab 21 = some ⟨.int .i32, 1, 4, [.int .i32 0]⟩ := rfl
@[simp] theorem tab_22 : tab 22 = some ⟨.slice 35, 1, 24, [.nil]⟩ := rfl
@[simp] theorem tab_24 : tab 24 = some ⟨.slice 3, 1, 24, [.nil]⟩ := rfl
@[simp] theorem tab_25 : tab 25 = some ⟨.int .i64, 1, 8, [.int .i64 0]⟩ := rfl
@[simp] theorem tab_34 : tab 34 = some ⟨.struct [(0, 3), (1, 3), (2, 3), (3, 3)], 4, 32, [.int .i64 0, .int .i64 0, .int .i64 0, .int .i64 0]⟩ := rfl
@[simp] theorem tab_35 : tab 35 = some ⟨.struct [(0, 3), (1, 3), (2, 3), (3, 3)], 4, 32, [.int .i64 0, .int .i64 0, .int .i64 0, .int .i64 0]⟩ := rfl
@[simp] theorem tab_38 : tab 38 = some ⟨.int .u32, 1, 4, [.int .u32 0]⟩ := rfl
@[simp] theorem tab_64 : tab 64 = some ⟨.int .u64, 1, 8, [.int .u64 0]⟩ := rfl
@[simp] theorem tab_67 : tab 67 = some ⟨.int .u64, 1, 8, [.int .u64 0]⟩ := rfl
@[simp] theorem tab_76 : tab 76 = some ⟨.struct [(0, 4), (1, 24)], 2, 32, [.bool false, .nil]⟩ := rfl
@[simp] theorem tab_77 : tab 77 = some ⟨.struct [(0, 4), (1, 24)], 2, 32, [.bool false, .nil]⟩ := rfl
@[simp] theorem tab_84 : tab 84 = some ⟨.int .i64, 1, 8, [.int .i64 0]⟩ := rfl
@[simp] theorem tab_93 : tab 93 = some ⟨.iface, 1, 16, [.nili]⟩ := rfl
@[simp] theorem tab_94 : tab 94 = some ⟨.iface, 1, 16, [.nili]⟩ := rfl
@[simp] theorem tab_100 : tab 100 = some ⟨.int .u64, 1, 8, [.int .u64 0]⟩ := rfl
@[simp] theorem tab_104 : tab 104 = some ⟨.ptr 3, 1, 8, [.nilp]⟩ := rfl
@[simp] theorem tab_106 : tab 106 = some ⟨.ptr 100, 1, 8, [.nilp]⟩ := rfl
@[simp] theorem tab_109 : tab 109 = some ⟨.ptr 126, 1, 8, [.nilp]⟩ := rfl
@[simp] theorem tab_111 : tab 111 = some ⟨.struct [(0, 17), (1, 17), (2, 17), (3, 9)], 4, 40, [.nilp, .nilp, .nilp, .str []]⟩ := rfl
@[simp] theorem tab_112 : tab 112 = some ⟨.struct [(0, 17), (1, 17), (2, 17), (3, 9)], 4, 40, [.nilp, .nilp, .nilp, .str []]⟩ := rfl
@[simp] theorem tab_113 : tab 113 = some ⟨.array 0 16, 0, 0, []⟩ := rfl
@[simp] theorem tab_114 : tab 114 = some ⟨.struct [(0, 113)], 0, 0, []⟩ := rfl
@[simp] theorem tab_115 : tab 115 = some ⟨.struct [(0, 113)], 0, 0, []⟩ := rfl
@[simp] theorem tab_117 : tab 117 = some ⟨.int .u8, 1, 1, [.int .u8 0]⟩ := rfl
@[simp] theorem tab_118 : tab 118 = some ⟨.int .u8, 1, 1, [.int .u8 0]⟩ := rfl
@[simp] theorem tab_120 : tab 120 = some ⟨.ptr 5, 1, 8, [.nilp]⟩ := rfl
@[simp] theorem tab_121 : tab 121 = some ⟨.int .i32, 1, 4, [.int .i32 0]⟩ := rfl
@[simp] theorem tab_122 : tab 122 = some ⟨.int .i32, 1, 4, [.int .i32 0]⟩ := rfl
@[simp] theorem tab_125 : tab 125 = some ⟨.struct [(0, 9)], 1, 16, [.str []]⟩ := rfl
@[simp] theorem tab_126 : tab 126 = some ⟨.struct [(0, 9)], 1, 16, [.str []]⟩ := rfl
theorem call_3 : Callable Try.prog 3 := ⟨⟨_, Try.func3, by kernel_rfl, by kernel_rfl⟩⟩
theorem call_4 : Callable Try.prog 4 := ⟨⟨_, Try.func4, by kernel_rfl, by kernel_rfl⟩⟩
theorem call_5 : Callable Try.prog 5 := ⟨⟨_, Try.func5, by kernel_rfl, by kernel_rfl⟩⟩
theorem call_6 : Callable Try.prog 6 := ⟨⟨_, Try.func6, by kernel_rfl, by kernel_rfl⟩⟩
theorem call_7 : Callable Try.prog 7 := ⟨⟨_, Try.func7, by kernel_rfl, by kernel_rfl⟩⟩
theorem call_8 : Callable Try.prog 8 := ⟨⟨_, Try.func8, by kernel_rfl, by kernel_rfl⟩⟩
theorem call_9 : Callable Try.prog 9 := ⟨⟨_, Try.func9, by kernel_rfl, by kernel_rfl⟩⟩
theorem call_10 : Callable Try.prog 10 := ⟨⟨_, Try.func10, by kernel_rfl, by kernel_rfl⟩⟩
theorem call_11 : Callable Try.prog 11 := ⟨⟨_, Try.func11, by kernel_rfl, by kernel_rfl⟩⟩
theorem call_12 : Callable Try.prog 12 := ⟨⟨_, Try.func12, by kernel_rfl, by kernel_rfl⟩⟩
theorem call_13 : Callable Try.prog 13 := ⟨⟨_, Try.func13, by kernel_rfl, by kernel_rfl⟩⟩
theorem call_14 : Callable Try.prog 14 := ⟨⟨_, Try.func14, by kernel_rfl, by kernel_rfl⟩⟩
theorem call_15 : Callable Try.prog 15 := ⟨⟨_, Try.func15, by kernel_rfl, by kernel_rfl⟩⟩
theorem call_16 : Callable Try.prog 16 := ⟨⟨_, Try.func16, by kernel_rfl, by kernel_rfl⟩⟩
theorem call_17 : Callable Try.prog 17 := ⟨⟨_, Try.func17, by kernel_rfl, by kernel_rfl⟩⟩
theorem call_18 : Callable Try.prog 18 := ⟨⟨_, Try.func18, by kernel_rfl, by kernel_rfl⟩⟩
theorem call_19 : Callable Try.prog 19 := ⟨⟨_, Try.func19, by kernel_rfl, by kernel_rfl⟩⟩
theorem call_20 : Callable Try.prog 20 := ⟨⟨_, Try.func20, by kernel_rfl, by kernel_rfl⟩⟩
theorem call_21 : Callable Try.prog 21 := ⟨⟨_, Try.func21, by kernel_rfl, by kernel_rfl⟩⟩
theorem call_22 : Callable Try.prog 22 := ⟨⟨_, Try.func22, by kernel_rfl, by kernel_rfl⟩⟩
theorem call_23 : Callable Try.prog 23 := ⟨⟨_, Try.func23, by kernel_rfl, by kernel_rfl⟩⟩
theorem call_24 : Callable Try.prog 24 := ⟨⟨_, Try.func24, by kernel_rfl, by kernel_rfl⟩⟩
theorem call_25 : Callable Try.prog 25 := ⟨⟨_, Try.func25, by kernel_rfl, by kernel_rfl⟩⟩
theorem call_26 : Callable Try.prog 26 := ⟨⟨_, Try.func26, by kernel_rfl, by kernel_rfl⟩⟩
theorem call_27 : Callable Try.prog 27 := ⟨⟨_, Try.func27, by kernel_rfl, by kernel_rfl⟩⟩
theorem call_28 : Callable Try.prog 28 := ⟨⟨_, Try.func28, by kernel_rfl, by kernel_rfl⟩⟩
theorem call_29 : Callable Try.prog 29 := ⟨⟨_, Try.func29, by kernel_rfl, by kernel_rfl⟩⟩
theorem call_30 : Callable Try.prog 30 := ⟨⟨_, Try.func30, by kernel_rfl, by kernel_rfl⟩⟩
theorem call_31 : Callable Try.prog 31 := ⟨⟨_, Try.func31, by kernel_rfl, by kernel_rfl⟩⟩
theorem call_32 : Callable Try.prog 32 := ⟨⟨_, Try.func32, by kernel_rfl, by kernel_rfl⟩⟩
theorem call_33 : Callable Try.prog 33 := ⟨⟨_, Try.func33, by kernel_rfl, by kernel_rfl⟩⟩
theorem call_34 : Callable Try.prog 34 := ⟨⟨_, Try.func34, by kernel_rfl, by kernel_rfl⟩⟩
theorem call_35 : Callable Try.prog 35 := ⟨⟨_, Try.func35, by kernel_rfl, by kernel_rfl⟩⟩
theorem call_36 : Callable Try.prog 36 := ⟨⟨_, Try.func36, by kernel_rfl, by kernel_rfl⟩⟩
theorem call_37 : Callable Try.prog 37 := ⟨⟨_, Try.func37, by kernel_rfl, by kernel_rfl⟩⟩
theorem call_38 : Callable Try.prog 38 := ⟨⟨_, Try.func38, by kernel_rfl, by kernel_rfl⟩⟩
theorem call_39 : Callable Try.prog 39 := ⟨⟨_, Try.func39, by kernel_rfl, by kernel_rfl⟩⟩
theorem call_40 : Callable Try.prog 40 := ⟨⟨_, Try.func40, by kernel_rfl, by kernel_rfl⟩⟩
theorem call_41 : Callable Try.prog 41 := ⟨⟨_, Try.func41, by kernel_rfl, by kernel_rfl⟩⟩
theorem call_42 : Callable Try.prog 42 := ⟨⟨_, Try.func42, by kernel_rfl, by kernel_rfl⟩⟩
theorem call_43 : Callable Try.prog 43 := ⟨⟨_, Try.func43, by kernel_rfl, by kernel_rfl⟩⟩
theorem call_44 : Callable Try.prog 44 := ⟨⟨_, Try.func44, by kernel_rfl, by kernel_rfl⟩⟩
theorem call_45 : Callable Try.prog 45 := ⟨⟨_, Try.func45, by kernel_rfl, by kernel_rfl⟩⟩
theorem call_46 : Callable Try.prog 46 := ⟨⟨_, Try.func46, by kernel_rfl, by kernel_rfl⟩⟩
theorem call_47 : Callable Try.prog 47 := ⟨⟨_, Try.func47, by kernel_rfl, by kernel_rfl⟩⟩
theorem call_48 : Callable Try.prog 48 := ⟨⟨_, Try.func48, by kernel_rfl, by kernel_rfl⟩⟩
theorem call_49 : Callable Try.prog 49 := ⟨⟨_, Try.func49, by kernel_rfl, by kernel_rfl⟩⟩
theorem call_50 : Callable Try.prog 50 := ⟨⟨_, Try.func50, by kernel_rfl, by kernel_rfl⟩⟩
theorem call_51 : Callable Try.prog 51 := ⟨⟨_, Try.func51, by kernel_rfl, by kernel_rfl⟩⟩
theorem call_52 : Callable Try.prog 52 := ⟨⟨_, Try.func52, by kernel_rfl, by kernel_rfl⟩⟩
theorem call_53 : Callable Try.prog 53 := ⟨⟨_, Try.func53, by kernel_rfl, by kernel_rfl⟩⟩
theorem call_54 : Callable Try.prog 54 := ⟨⟨_, Try.func54, by kernel_rfl, by kernel_rfl⟩⟩
theorem call_55 : Callable Try.prog 55 := ⟨⟨_, Try.func55, by kernel_rfl, by kernel_rfl⟩⟩
theorem call_56 : Callable Try.prog 56 := ⟨⟨_, Try.func56, by kernel_rfl, by kernel_rfl⟩⟩
theorem call_57 : Callable Try.prog 57 := ⟨⟨_, Try.func57, by kernel_rfl, by kernel_rfl⟩⟩
theorem call_58 : Callable Try.prog 58 := ⟨⟨_, Try.func58, by kernel_rfl, by kernel_rfl⟩⟩
theorem call_59 : Callable Try.prog 59 := ⟨⟨_, Try.func59, by kernel_rfl, by kernel_rfl⟩⟩
theorem call_60 : Callable Try.prog 60 := ⟨⟨_, Try.func60, by kernel_rfl, by kernel_rfl⟩⟩
theorem call_61 : Callable Try.prog 61 := ⟨⟨_, Try.func61, by kernel_rfl, by kernel_rfl⟩⟩
theorem call_62 : Callable Try.prog 62 := ⟨⟨_, Try.func62, by kernel_rfl, by kernel_rfl⟩⟩
theorem call_63 : Callable Try.prog 63 := ⟨⟨_, Try.func63, by kernel_rfl, by kernel_rfl⟩⟩
theorem call_64 : Callable Try.prog 64 := ⟨⟨_, Try.func64, by kernel_rfl, by kernel_rfl⟩⟩
theorem call_65 : Callable Try.prog 65 := ⟨⟨_, Try.func65, by kernel_rfl, by kernel_rfl⟩⟩
theorem call_66 : Callable Try.prog 66 := ⟨⟨_, Try.func66, by kernel_rfl, by kernel_rfl⟩⟩
theorem call_67 : Callable Try.prog 67 := ⟨⟨_, Try.func67, by kernel_rfl, by kernel_rfl⟩⟩
theorem call_68 : Callable Try.prog 68 := ⟨⟨_, Try.func68, by kernel_rfl, by kernel_rfl⟩⟩
theorem call_69 : Callable Try.prog 69 := ⟨⟨_, Try.func69, by kernel_rfl, by kernel_rfl⟩⟩
theorem call_70 : Callable Try.prog 70 := ⟨⟨_, Try.func70, by kernel_rfl, by kernel_rfl⟩⟩
theorem call_71 : Callable Try.prog 71 := ⟨⟨_, Try.func71, by kernel_rfl, by kernel_rfl⟩⟩
theorem call_72 : Callable Try.prog 72 := ⟨⟨_, Try.func72, by kernel_rfl, by kernel_rfl⟩⟩
theorem call_73 : Callable Try.prog 73 := ⟨⟨_, Try.func73, by kernel_rfl, by kernel_rfl⟩⟩
theorem call_74 : Callable Try.prog 74 := ⟨⟨_, Try.func74, by kernel_rfl, by kernel_rfl⟩⟩
theorem call_75 : Callable Try.prog 75 := ⟨⟨_, Try.func75, by kernel_rfl, by kernel_rfl⟩⟩
theorem call_76 : Callable Try.prog 76 := ⟨⟨_, Try.func76, by kernel_rfl, by kernel_rfl⟩⟩
theorem call_77 : Callable Try.prog 77 := ⟨⟨_, Try.func77, by kernel_rfl, by kernel_rfl⟩⟩
theorem call_78 : Callable Try.prog 78 := ⟨⟨_, Try.func78, by kernel_rfl, by kernel_rfl⟩⟩
theorem call_79 : Callable Try.prog 79 := ⟨⟨_, Try.func79, by kernel_rfl, by kernel_rfl⟩⟩
theorem call_80 : Callable Try.prog 80 := ⟨⟨_, Try.func80, by kernel_rfl, by kernel_rfl⟩⟩
theorem call_81 : Callable Try.prog 81 := ⟨⟨_, Try.func81, by kernel_rfl, by kernel_rfl⟩⟩
theorem call_82 : Callable Try.prog 82 := ⟨⟨_, Try.func82, by kernel_rfl, by kernel_rfl⟩⟩
theorem call_83 : Callable Try.prog 83 := ⟨⟨_, Try.func83, by kernel_rfl, by kernel_rfl⟩⟩
theorem call_84 : Callable Try.prog 84 := ⟨⟨_, Try.func84, by kernel_rfl, by kernel_rfl⟩⟩
@[simp] theorem bneI (a b : Int) : (a != b) = !decide (a = b) := by by_cases h : a = b <;> simp [h]
@[simp] theorem beqI (a b : Int) : (a == b) = decide (a = b) := by by_cases h : a = b <;> simp [h]
attribute [simp] frzAt List.take_of_length_le vids vidss cellD cellsD leR leA FV.le D.leL mskE mskS opTmps tmpsOf Op.operands Call.operands ptrsOf rdIds shIds isSh newOk gotE putE mvN mkEv wrEv updS getO Ev.app evDr1 evDr isStore ptrIds wrIds msk fids fidss oids evIds callS placesT evOne evPs ArgsOk ArgOk σ0 renE pickS srcV srcC evAp evCo seqQ blockQ retQ ren rens renO renOs σ1 setAll evOps wantS evOp evA evX evXs evOpt ofVal ofLeaf ofLeaves setS get evBin evInt evStr evCpx evFlt evLd evStN evIA evIx evFA evField evUn evCv evSl bnd ldD evBu lenV mxI mnI TI.ag D.cs elemAt mkV allD partV cellsV plainV fvCells spl evBd fillV partsD szD okEl TI.zeroD evB envFrom retAll retOne pack viewF viewFs D.flat D.flats flatV flatVs flatR keepE below belows belowE belowO belowS
end Go.Proofs.Ytaobnhenjldjeaa.Pay
/- What walks share: numbers, rows of numbers told by a function, pieces of lists. No statement of the seed is proved here. -/
namespace Go.Proofs.Ytaobnhenjldjeaa.Pay
open Go Go.Proofs
set_option linter.unusedVariables false
set_option linter.unusedSimpArgs false

@[reducible] def dI (n : Int) : D := .int .i64 n
theorem take_all {α : Type} (p : α → Bool) {l : List α} {k : Nat} (h : k < l.length) : (l.take (k + 1)).all p = ((l.take k).all p && p l[k]) := by
  rw [List.take_add_one, List.getElem?_eq_getElem h]; simp only [Option.toList_some, List.all_append, List.all_cons, List.all_nil, Bool.and_true]
theorem any_take {α : Type} (f : α → Bool) {l : List α} {k : Nat} (h : k < l.length) : (l.take (k + 1)).any f = ((l.take k).any f || f l[k]) := by
  rw [List.take_add_one, List.getElem?_eq_getElem h]; simp only [Option.toList_some, List.any_append, List.any_cons, List.any_nil, Bool.or_false]

/-- A row of numbers, told by a function. -/
def rowF (g : Nat → Int) (n : Nat) : List D := (List.range n).map fun i => dI (g i)
def upd (g : Nat → Int) (i : Nat) (x : Int) : Nat → Int := fun j => if j = i then x else g j
@[simp] theorem rowF_len (g : Nat → Int) (n : Nat) : (rowF g n).length = n := by simp [rowF]
@[simp] theorem rowF_at (g : Nat → Int) (n i : Nat) (h : i < (rowF g n).length) : (rowF g n)[i] = dI (g i) := by simp [rowF]
theorem rowF_get {g : Nat → Int} {n i : Nat} (h : i < n) : (rowF g n)[i]? = some (dI (g i)) := by
  rw [List.getElem?_eq_getElem (by simpa using h), rowF_at]
@[simp] theorem rowF_set (g : Nat → Int) (n i : Nat) (x : Int) : (rowF g n).set i (.int .i64 x) = rowF (upd g i x) n := by
  apply List.ext_getElem?
  intro j
  rw [List.getElem?_set]
  by_cases hj : j < n
  · by_cases hij : i = j
    · subst hij; rw [if_pos rfl, if_pos (by simpa using hj), rowF_get hj, show upd g i x i = x from if_pos rfl]
    · rw [if_neg hij, rowF_get hj, rowF_get hj, show upd g i x j = g j from if_neg (Ne.symm hij)]
  · rw [List.getElem?_eq_none (by simp; omega), List.getElem?_eq_none (by simp; omega)]
    split
    · split
      · rename_i h1 h2; simp at h2; omega
      · rfl
    · rfl
theorem rowF_ext {g h : Nat → Int} {n : Nat} (e : ∀ i, i < n → g i = h i) : rowF g n = rowF h n := by
  unfold rowF
  exact List.map_congr_left fun i hi => by rw [e i (by simpa using hi)]
theorem rowF_of (l : List Int) : l.map dI = rowF (fun i => (l[i]?).getD 0) l.length := by
  apply List.ext_getElem?
  intro j
  by_cases hj : j < l.length
  · rw [rowF_get hj, List.getElem?_map, List.getElem?_eq_getElem hj]; rfl
  · rw [List.getElem?_eq_none (by simp; omega), List.getElem?_eq_none (by simp; omega)]
theorem shr1 {i j h : Nat} (hh : (i + j) / 2 = h) (hb : i + j ≤ 4000000000) : IntKind.i64.wrap ((IntKind.u64.wrap (IntKind.i64.wrap ((i : Int) + j))).fdiv (2 ^ min 1 IntKind.u64.bits)) = (h : Int) := by
  have h1 : IntKind.i64.wrap ((i : Int) + j) = i + j := wrapI (by omega) (by omega)
  have h2 : IntKind.u64.wrap ((i : Int) + j) = i + j := by simp [IntKind.wrap, IntKind.bits, IntKind.signed]; omega
  rw [h1, h2]
  have : ((2 : Int) ^ min 1 IntKind.u64.bits) = 2 := by decide
  rw [this, Int.fdiv_eq_ediv_of_nonneg _ (by omega), wrapI (by omega) (by omega)]
  omega
end Go.Proofs.Ytaobnhenjldjeaa.Pay
/- Products and quotients of 128 bits. No statement of the seed is proved here. -/
namespace Go.Proofs.Ytaobnhenjldjeaa.Pay
open Go Go.RowKit
set_option linter.unusedVariables false
set_option linter.unusedSimpArgs false

theorem wrapU {n : Int} (h1 : 0 ≤ n) (h2 : n < 18446744073709551616) : IntKind.u64.wrap n = n := by rw [IntKind.wrap_u64]; omega
theorem wrapUm (a : Nat) : IntKind.u64.wrap (a : Int) = ((a % 18446744073709551616 : Nat) : Int) := by rw [IntKind.wrap_u64]; omega
theorem maskU (a : Nat) (ha : a < 18446744073709551616) : bits .and .u64 (a : Int) 4294967295 = ((a % 4294967296 : Nat) : Int) := by
  have h := bits_and_u64_nat a 4294967295 ha (by omega)
  have e : a &&& 4294967295 = a % 4294967296 := Nat.and_two_pow_sub_one_eq_mod a 32
  rw [e] at h
  exact h
theorem minU {k : Nat} (h : k ≤ 64) : min k IntKind.u64.bits = k := by show min k 64 = k; omega
theorem shrU (a : Nat) {k : Nat} (h : k ≤ 64) : (a : Int).fdiv (2 ^ min k IntKind.u64.bits) = ((a / 2 ^ k : Nat) : Int) := by
  rw [minU h, Int.fdiv_eq_ediv_of_nonneg _ (Int.le_of_lt (Int.pow_pos (by decide)))]
  rw [show (2 : Int) ^ k = ((2 ^ k : Nat) : Int) from by simp, ← Int.natCast_ediv]
theorem shlU (a : Nat) {k : Nat} (h : k ≤ 64) : IntKind.u64.wrap ((a : Int) * 2 ^ min k IntKind.u64.bits) = ((a * 2 ^ k % 18446744073709551616 : Nat) : Int) := by
  rw [minU h, show (2 : Int) ^ k = ((2 ^ k : Nat) : Int) from by simp, ← Int.natCast_mul, wrapUm]
theorem sh32 (a : Nat) : (a : Int).fdiv (2 ^ min 32 IntKind.u64.bits) = ((a / 4294967296 : Nat) : Int) := shrU a (by decide)
theorem mulU {a b p : Nat} (hp : a * b = p) (h : p < 18446744073709551616) : IntKind.u64.wrap ((a : Int) * b) = (p : Int) := by
  rw [← Int.natCast_mul, hp, wrapUm]; omega
theorem addU {a b p : Nat} (hp : a + b = p) (h : p < 18446744073709551616) : IntKind.u64.wrap ((a : Int) + b) = (p : Int) := by
  rw [← Int.natCast_add, hp, wrapUm]; omega

theorem size_ok (n : Int) (h : -9223372036854775808 ≤ n ∧ n ≤ 9223372036854775807) : Gives Try.prog 46 [.d (dI n)] (.d (.int .u64 n.natAbs)) := by
  have hw1 : n < 0 → IntKind.u64.wrap (-(IntKind.u64.wrap n)) = n.natAbs := fun h0 => by rw [IntKind.wrap_u64, IntKind.wrap_u64]; omega
  have hw2 : ¬ n < 0 → IntKind.u64.wrap n = n.natAbs := fun h0 => by rw [IntKind.wrap_u64]; omega
  refine Gives.enter tabOk Try.func46 rfl (by show 1 ≤ 10; decide) ?_
  simp only [Try.f46]
  refine WpC.seq (WpC.ops tabOk (r := []) (by simp -implicitDefEqProofs <;> rfl) rfl ?_)
  refine WpC.seq ?_
  refine WpC.seq (WpC.ops tabOk (r := []) (by simp -implicitDefEqProofs <;> rfl) rfl ?_)
  refine WpC.condD (n < 0) (by simp -implicitDefEqProofs) (fun d4 => ?_) (fun d4 => ?_)
  · have hw := hw1 d4
    refine WpC.seq (WpC.ops tabOk (r := []) (by simp -implicitDefEqProofs [d4, hw] <;> rfl) rfl ?_)
    refine WpC.ret ?_
    try simp only [blockQ, seqQ]
    refine retD_i (by simp -implicitDefEqProofs [d4, hw] <;> rfl) (by simp -implicitDefEqProofs [d4, hw] <;> rfl) ?_
    simp -implicitDefEqProofs [d4, hw]
  · have hw := hw2 d4
    refine WpC.skip ?_
    refine WpC.seq (WpC.ops tabOk (r := []) (by simp -implicitDefEqProofs [d4, hw] <;> rfl) rfl ?_)
    refine WpC.ret ?_
    try simp only [blockQ, seqQ]
    refine retD_i (by simp -implicitDefEqProofs [d4, hw] <;> rfl) (by simp -implicitDefEqProofs [d4, hw] <;> rfl) ?_
    simp -implicitDefEqProofs [d4, hw]

theorem mul64_ok (x y : Nat) (hx : x < 18446744073709551616) (hy : y < 18446744073709551616) :
    Gives Try.prog 45 [.d (.int .u64 x), .d (.int .u64 y)] (.tup [.d (.int .u64 ((x * y / 18446744073709551616 : Nat) : Int)), .d (.int .u64 ((x * y % 18446744073709551616 : Nat) : Int))]) := by
  obtain ⟨bd, bt, bw, hhi⟩ := Go.Lib.mul64_hi x y hx hy
  have hlo : IntKind.u64.wrap ((x : Int) * y) = ((x * y % 18446744073709551616 : Nat) : Int) := by rw [← Int.natCast_mul, wrapUm]
  have m1 := maskU x hx
  have m2 := maskU y hy
  have s1 := sh32 x
  have s2 := sh32 y
  rw [← hhi]
  obtain ⟨x0, hx0⟩ : ∃ q, x % 4294967296 = q := ⟨_, rfl⟩
  obtain ⟨x1, hx1⟩ : ∃ q, x / 4294967296 = q := ⟨_, rfl⟩
  obtain ⟨y0, hy0⟩ : ∃ q, y % 4294967296 = q := ⟨_, rfl⟩
  obtain ⟨y1, hy1⟩ : ∃ q, y / 4294967296 = q := ⟨_, rfl⟩
  have ba := Go.Lib.half_mul_le (a := x1) (b := y1) (by omega) (by omega)
  have bb := Go.Lib.half_mul_le (a := x1) (b := y0) (by omega) (by omega)
  have bc := Go.Lib.half_mul_le (a := x0) (b := y1) (by omega) (by omega)
  simp only [hx0, hx1, hy0, hy1] at bd bt bw hhi m1 m2 s1 s2 ⊢
  obtain ⟨w0, hw0⟩ : ∃ q, x0 * y0 = q := ⟨_, rfl⟩
  obtain ⟨p10, hp10⟩ : ∃ q, x1 * y0 = q := ⟨_, rfl⟩
  obtain ⟨p01, hp01⟩ : ∃ q, x0 * y1 = q := ⟨_, rfl⟩
  obtain ⟨p11, hp11⟩ : ∃ q, x1 * y1 = q := ⟨_, rfl⟩
  rw [hw0] at bd
  rw [hw0, hp10] at bt
  rw [hw0, hp10, hp01] at bw
  rw [hw0, hp10, hp01, hp11] at hhi ⊢
  rw [hp11] at ba
  rw [hp10] at bb
  rw [hp01] at bc
  have e1 := mulU hw0 (by omega)
  have e2 := mulU hp10 (by omega)
  have e3 := mulU hp01 (by omega)
  have e4 := mulU hp11 (by omega)
  have e5 := sh32 w0
  obtain ⟨w0h, hw0h⟩ : ∃ q, w0 / 4294967296 = q := ⟨_, rfl⟩
  rw [hw0h] at e5 bt bw hhi ⊢
  obtain ⟨t, ht⟩ : ∃ q, p10 + w0h = q := ⟨_, rfl⟩
  rw [ht] at bt bw hhi ⊢
  have e6 := addU ht (by omega)
  have e7 := maskU t (by omega)
  have e8 := sh32 t
  obtain ⟨tl, htl⟩ : ∃ q, t % 4294967296 = q := ⟨_, rfl⟩
  obtain ⟨th, hth⟩ : ∃ q, t / 4294967296 = q := ⟨_, rfl⟩
  rw [htl] at e7 bw hhi ⊢
  rw [hth] at e8 hhi ⊢
  obtain ⟨w1, hw1⟩ : ∃ q, tl + p01 = q := ⟨_, rfl⟩
  rw [hw1] at bw hhi ⊢
  have e9 := addU hw1 (by omega)
  have e10 := sh32 w1
  obtain ⟨w1h, hw1h⟩ : ∃ q, w1 / 4294967296 = q := ⟨_, rfl⟩
  rw [hw1h] at e10 hhi ⊢
  obtain ⟨s, hs⟩ : ∃ q, p11 + th = q := ⟨_, rfl⟩
  have e11 := addU hs (by omega)
  rw [hs] at hhi ⊢
  obtain ⟨hi, hhi'⟩ : ∃ q, s + w1h = q := ⟨_, rfl⟩
  have e12 := addU hhi' (by omega)
  rw [hhi'] at hhi ⊢
  refine Gives.enter tabOk Try.func45 rfl (by show 2 ≤ 51; decide) ?_
  simp only [Try.f45]
  refine WpC.seq (WpC.ops tabOk (r := []) (by simp -implicitDefEqProofs [hlo, m1, m2, s1, s2, e1, e2, e3, e4, e5, e6, e7, e8, e9, e10, e11, e12] <;> rfl) rfl ?_)
  refine WpC.seq (WpC.ops tabOk (r := []) (by simp -implicitDefEqProofs [hlo, m1, m2, s1, s2, e1, e2, e3, e4, e5, e6, e7, e8, e9, e10, e11, e12] <;> rfl) rfl ?_)
  refine WpC.seq (WpC.ops tabOk (r := []) (by simp -implicitDefEqProofs [hlo, m1, m2, s1, s2, e1, e2, e3, e4, e5, e6, e7, e8, e9, e10, e11, e12] <;> rfl) rfl ?_)
  refine WpC.seq (WpC.ops tabOk (r := []) (by simp -implicitDefEqProofs [hlo, m1, m2, s1, s2, e1, e2, e3, e4, e5, e6, e7, e8, e9, e10, e11, e12] <;> rfl) rfl ?_)
  refine WpC.seq (WpC.ops tabOk (r := []) (by simp -implicitDefEqProofs [hlo, m1, m2, s1, s2, e1, e2, e3, e4, e5, e6, e7, e8, e9, e10, e11, e12] <;> rfl) rfl ?_)
  refine WpC.seq (WpC.ops tabOk (r := []) (by simp -implicitDefEqProofs [hlo, m1, m2, s1, s2, e1, e2, e3, e4, e5, e6, e7, e8, e9, e10, e11, e12] <;> rfl) rfl ?_)
  refine WpC.seq (WpC.ops tabOk (r := []) (by simp -implicitDefEqProofs [hlo, m1, m2, s1, s2, e1, e2, e3, e4, e5, e6, e7, e8, e9, e10, e11, e12] <;> rfl) rfl ?_)
  refine WpC.seq (WpC.ops tabOk (r := []) (by simp -implicitDefEqProofs [hlo, m1, m2, s1, s2, e1, e2, e3, e4, e5, e6, e7, e8, e9, e10, e11, e12] <;> rfl) rfl ?_)
  refine WpC.seq (WpC.ops tabOk (r := []) (by simp -implicitDefEqProofs [hlo, m1, m2, s1, s2, e1, e2, e3, e4, e5, e6, e7, e8, e9, e10, e11, e12] <;> rfl) rfl ?_)
  refine WpC.seq (WpC.ops tabOk (r := []) (by simp -implicitDefEqProofs [hlo, m1, m2, s1, s2, e1, e2, e3, e4, e5, e6, e7, e8, e9, e10, e11, e12] <;> rfl) rfl ?_)
  refine WpC.seq (WpC.ops tabOk (r := []) (by simp -implicitDefEqProofs [hlo, m1, m2, s1, s2, e1, e2, e3, e4, e5, e6, e7, e8, e9, e10, e11, e12] <;> rfl) rfl ?_)
  refine WpC.seq (WpC.ops tabOk (r := []) (by simp -implicitDefEqProofs [hlo, m1, m2, s1, s2, e1, e2, e3, e4, e5, e6, e7, e8, e9, e10, e11, e12] <;> rfl) rfl ?_)
  refine WpC.ret ?_
  try simp only [blockQ, seqQ]
  refine retD_i (by simp -implicitDefEqProofs [hlo, m1, m2, s1, s2, e1, e2, e3, e4, e5, e6, e7, e8, e9, e10, e11, e12] <;> rfl) (by simp -implicitDefEqProofs [hlo, m1, m2, s1, s2, e1, e2, e3, e4, e5, e6, e7, e8, e9, e10, e11, e12] <;> rfl) ?_
  simp -implicitDefEqProofs [hlo, m1, m2, s1, s2, e1, e2, e3, e4, e5, e6, e7, e8, e9, e10, e11, e12]
end Go.Proofs.Ytaobnhenjldjeaa.Pay
/- math/bits: Len64, Div64. No statement of the seed is proved here. -/
namespace Go.Proofs.Ytaobnhenjldjeaa.Pay
open Go Go.RowKit
set_option linter.unusedVariables false
set_option linter.unusedSimpArgs false

theorem log2_shift {y k : Nat} (h : 2 ^ k ≤ y) : 0 < y / 2 ^ k ∧ y.log2 = k + (y / 2 ^ k).log2 := by
  have hk : 0 < 2 ^ k := Nat.two_pow_pos k
  have h1 : 0 < y / 2 ^ k := Nat.div_pos h hk
  refine ⟨h1, ?_⟩
  have hy : y ≠ 0 := by omega
  rw [Nat.log2_eq_iff hy]
  have h2 := Nat.log2_self_le (n := y / 2 ^ k) (by omega)
  have h3 := Nat.lt_log2_self (n := y / 2 ^ k)
  obtain ⟨l, hl⟩ : ∃ l, (y / 2 ^ k).log2 = l := ⟨_, rfl⟩
  rw [hl] at h2 h3 ⊢
  refine ⟨?_, ?_⟩
  · rw [Nat.pow_add, Nat.mul_comm]
    exact Nat.le_trans (Nat.mul_le_mul_right _ h2) (Nat.div_mul_le_self y _)
  · rw [Nat.add_assoc, Nat.pow_add, Nat.mul_comm]
    exact (Nat.div_lt_iff_lt_mul hk).1 h3

theorem len64_ok (y : Nat) (h0 : 0 < y) (hy : y < 18446744073709551616) : Gives Try.prog 69 [.d (.int .u64 y)] (.d (dI (y.log2 + 1))) := by
  obtain ⟨x1, n1, hx1, hxl1, hn1, hl1, ha1, hb1⟩ : ∃ x1 n1 : Nat, 0 < x1 ∧ x1 < 4294967296 ∧ n1 ≤ 32 ∧ y.log2 = n1 + x1.log2 ∧ (4294967296 ≤ y → x1 = y / 4294967296 ∧ n1 = 32) ∧ (¬ 4294967296 ≤ y → x1 = y ∧ n1 = 0) := by
    by_cases h : 4294967296 ≤ y
    · obtain ⟨h1, h2⟩ := log2_shift (k := 32) h
      exact ⟨y / 4294967296, 32, h1, by omega, by omega, h2, fun _ => ⟨rfl, rfl⟩, fun q => absurd h q⟩
    · exact ⟨y, 0, h0, by omega, by omega, by omega, fun q => absurd q h, fun _ => ⟨rfl, rfl⟩⟩
  obtain ⟨x2, n2, hx2, hxl2, hn2, hl2, ha2, hb2⟩ : ∃ x2 n2 : Nat, 0 < x2 ∧ x2 < 65536 ∧ n2 ≤ 48 ∧ y.log2 = n2 + x2.log2 ∧ (65536 ≤ x1 → x2 = x1 / 65536 ∧ n2 = n1 + 16) ∧ (¬ 65536 ≤ x1 → x2 = x1 ∧ n2 = n1) := by
    by_cases h : 65536 ≤ x1
    · obtain ⟨h1, h2⟩ := log2_shift (k := 16) h
      exact ⟨x1 / 65536, n1 + 16, h1, by omega, by omega, by rw [hl1, h2, show (2 : Nat) ^ 16 = 65536 from rfl]; omega, fun _ => ⟨rfl, rfl⟩, fun q => absurd h q⟩
    · exact ⟨x1, n1, hx1, by omega, by omega, by omega, fun q => absurd q h, fun _ => ⟨rfl, rfl⟩⟩
  obtain ⟨x3, n3, hx3, hxl3, hn3, hl3, ha3, hb3⟩ : ∃ x3 n3 : Nat, 0 < x3 ∧ x3 < 256 ∧ n3 ≤ 56 ∧ y.log2 = n3 + x3.log2 ∧ (256 ≤ x2 → x3 = x2 / 256 ∧ n3 = n2 + 8) ∧ (¬ 256 ≤ x2 → x3 = x2 ∧ n3 = n2) := by
    by_cases h : 256 ≤ x2
    · obtain ⟨h1, h2⟩ := log2_shift (k := 8) h
      exact ⟨x2 / 256, n2 + 8, h1, by omega, by omega, by rw [hl2, h2, show (2 : Nat) ^ 8 = 256 from rfl]; omega, fun _ => ⟨rfl, rfl⟩, fun q => absurd h q⟩
    · exact ⟨x2, n2, hx2, by omega, by omega, by omega, fun q => absurd q h, fun _ => ⟨rfl, rfl⟩⟩
  have e1 : ((4294967296 : Int) ≤ (y : Int)) ↔ 4294967296 ≤ y := by omega
  have e2 : ((65536 : Int) ≤ (x1 : Int)) ↔ 65536 ≤ x1 := by omega
  have e3 : ((256 : Int) ≤ (x2 : Int)) ↔ 256 ≤ x2 := by omega
  have s1 := shrU y (k := 32) (by decide)
  have s2 := shrU x1 (k := 16) (by decide)
  have s3 := shrU x2 (k := 8) (by decide)
  rw [show (2 : Nat) ^ 32 = 4294967296 from rfl] at s1
  rw [show (2 : Nat) ^ 16 = 65536 from rfl] at s2
  rw [show (2 : Nat) ^ 8 = 256 from rfl] at s3
  have w1 : IntKind.i64.wrap ((n1 : Int) + 16) = ((n1 + 16 : Nat) : Int) := by rw [wrapI (by omega) (by omega)]; omega
  have w2 : IntKind.i64.wrap ((n2 : Int) + 8) = ((n2 + 8 : Nat) : Int) := by rw [wrapI (by omega) (by omega)]; omega
  have w3 : IntKind.u8.wrap (x3 : Int) = x3 := by simp [IntKind.wrap, IntKind.bits, IntKind.signed]; omega
  refine Gives.enter tabOk Try.func69 rfl (by show 1 ≤ 25; decide) ?_
  simp only [Try.f69]
  refine WpC.seq (WpC.ops tabOk (r := []) (by simp -implicitDefEqProofs [e1, e2, e3, s1, s2, s3, w1, w2, w3, hxl3] <;> rfl) rfl ?_)
  refine WpC.seq ?_
  refine WpC.seq (WpC.ops tabOk (r := []) (by simp -implicitDefEqProofs [e1, e2, e3, s1, s2, s3, w1, w2, w3, hxl3] <;> rfl) rfl ?_)
  refine WpC.join ⟨[(0, .d (.int .u64 x1)), (2, .d (dI n1))], [], 25, 0⟩ ?_ ?_
  · refine WpC.condD (4294967296 ≤ y) (by simp -implicitDefEqProofs [e1, e2, e3, s1, s2, s3, w1, w2, w3, hxl3]) (fun d4 => ?_) (fun d4 => ?_)
    · obtain ⟨u1, u2⟩ := ha1 d4
      subst u2
      have u1' := u1.symm
      refine WpC.seq (WpC.ops tabOk (r := []) (by simp -implicitDefEqProofs [e1, e2, e3, s1, s2, s3, w1, w2, w3, hxl3, d4, u1'] <;> rfl) rfl ?_)
      refine WpC.ops tabOk (r := []) (by simp -implicitDefEqProofs [e1, e2, e3, s1, s2, s3, w1, w2, w3, hxl3, d4, u1'] <;> rfl) rfl ?_
      exact ⟨rfl, Gh.cut' [0, 2] 0 (by simp -implicitDefEqProofs [e1, e2, e3, s1, s2, s3, w1, w2, w3, hxl3, d4, u1']) (by simp -implicitDefEqProofs [e1, e2, e3, s1, s2, s3, w1, w2, w3, hxl3, d4, u1']) rfl (by simp) (by simp) (by simp)⟩
    · obtain ⟨u1, u2⟩ := hb1 d4
      subst u1 u2
      refine WpC.skip ?_
      exact ⟨rfl, Gh.cut' [0, 2] 0 (by simp -implicitDefEqProofs [e1, e2, e3, s1, s2, s3, w1, w2, w3, hxl3, d4]) (by simp -implicitDefEqProofs [e1, e2, e3, s1, s2, s3, w1, w2, w3, hxl3, d4]) rfl (by simp) (by simp) (by simp)⟩
  · refine WpC.seq ?_
    refine WpC.seq (WpC.ops tabOk (r := []) (by simp -implicitDefEqProofs [e1, e2, e3, s1, s2, s3, w1, w2, w3, hxl3] <;> rfl) rfl ?_)
    refine WpC.join ⟨[(0, .d (.int .u64 x2)), (2, .d (dI n2))], [], 25, 0⟩ ?_ ?_
    · refine WpC.condD (65536 ≤ x1) (by simp -implicitDefEqProofs [e1, e2, e3, s1, s2, s3, w1, w2, w3, hxl3]) (fun d8 => ?_) (fun d8 => ?_)
      · obtain ⟨u1, u2⟩ := ha2 d8
        subst u2
        have u1' := u1.symm
        refine WpC.seq (WpC.ops tabOk (r := []) (by simp -implicitDefEqProofs [e1, e2, e3, s1, s2, s3, w1, w2, w3, hxl3, d8, u1'] <;> rfl) rfl ?_)
        refine WpC.ops tabOk (r := []) (by simp -implicitDefEqProofs [e1, e2, e3, s1, s2, s3, w1, w2, w3, hxl3, d8, u1'] <;> rfl) rfl ?_
        exact ⟨rfl, Gh.cut' [0, 2] 0 (by simp -implicitDefEqProofs [e1, e2, e3, s1, s2, s3, w1, w2, w3, hxl3, d8, u1']) (by simp -implicitDefEqProofs [e1, e2, e3, s1, s2, s3, w1, w2, w3, hxl3, d8, u1']) rfl (by simp) (by simp) (by simp)⟩
      · obtain ⟨u1, u2⟩ := hb2 d8
        subst u1 u2
        refine WpC.skip ?_
        exact ⟨rfl, Gh.cut' [0, 2] 0 (by simp -implicitDefEqProofs [e1, e2, e3, s1, s2, s3, w1, w2, w3, hxl3, d8]) (by simp -implicitDefEqProofs [e1, e2, e3, s1, s2, s3, w1, w2, w3, hxl3, d8]) rfl (by simp) (by simp) (by simp)⟩
    · refine WpC.seq ?_
      refine WpC.seq (WpC.ops tabOk (r := []) (by simp -implicitDefEqProofs [e1, e2, e3, s1, s2, s3, w1, w2, w3, hxl3] <;> rfl) rfl ?_)
      refine WpC.join ⟨[(0, .d (.int .u64 x3)), (2, .d (dI n3))], [], 25, 0⟩ ?_ ?_
      · refine WpC.condD (256 ≤ x2) (by simp -implicitDefEqProofs [e1, e2, e3, s1, s2, s3, w1, w2, w3, hxl3]) (fun d14 => ?_) (fun d14 => ?_)
        · obtain ⟨u1, u2⟩ := ha3 d14
          subst u2
          have u1' := u1.symm
          refine WpC.seq (WpC.ops tabOk (r := []) (by simp -implicitDefEqProofs [e1, e2, e3, s1, s2, s3, w1, w2, w3, hxl3, d14, u1'] <;> rfl) rfl ?_)
          refine WpC.ops tabOk (r := []) (by simp -implicitDefEqProofs [e1, e2, e3, s1, s2, s3, w1, w2, w3, hxl3, d14, u1'] <;> rfl) rfl ?_
          exact ⟨rfl, Gh.cut' [0, 2] 0 (by simp -implicitDefEqProofs [e1, e2, e3, s1, s2, s3, w1, w2, w3, hxl3, d14, u1']) (by simp -implicitDefEqProofs [e1, e2, e3, s1, s2, s3, w1, w2, w3, hxl3, d14, u1']) rfl (by simp) (by simp) (by simp)⟩
        · obtain ⟨u1, u2⟩ := hb3 d14
          subst u1 u2
          refine WpC.skip ?_
          exact ⟨rfl, Gh.cut' [0, 2] 0 (by simp -implicitDefEqProofs [e1, e2, e3, s1, s2, s3, w1, w2, w3, hxl3, d14]) (by simp -implicitDefEqProofs [e1, e2, e3, s1, s2, s3, w1, w2, w3, hxl3, d14]) rfl (by simp) (by simp) (by simp)⟩
      · generalize hS : ByteArray.mk _ = S
        have hs0 : ((List.range 256).all fun x => x == 0 || (S.data.toList[x]?).map UInt8.toNat == some (x.log2 + 1)) = true := by rw [← hS]; decide +kernel
        have hs1 := List.all_eq_true.1 hs0 x3 (List.mem_range.2 hxl3)
        have hx30 : (x3 == 0) = false := by simp; omega
        rw [hx30, Bool.false_or, beq_iff_eq, Option.map_eq_some_iff] at hs1
        obtain ⟨b, hs2, hs3⟩ := hs1
        have hs2 : S.data[x3]? = some b := by rw [← Array.getElem?_toList]; exact hs2
        have hb : x3.log2 ≤ 7 := by have := (Nat.log2_lt (by omega)).2 (show x3 < 2 ^ 8 from hxl3); omega
        have w4 : IntKind.i64.wrap ((x3.log2 : Int) + 1) = (x3.log2 : Int) + 1 := wrapI (by omega) (by omega)
        have w5 : IntKind.i64.wrap ((n3 : Int) + ((x3.log2 : Int) + 1)) = (y.log2 : Int) + 1 := by rw [wrapI (by omega) (by omega)]; omega
        refine WpC.seq (WpC.ops tabOk (r := []) (by simp -implicitDefEqProofs [e1, e2, e3, s1, s2, s3, w1, w2, w3, hxl3, hs2, hs3, w4, w5] <;> rfl) rfl ?_)
        refine WpC.ret ?_
        try simp only [blockQ, seqQ]
        refine retD_i (by simp -implicitDefEqProofs [e1, e2, e3, s1, s2, s3, w1, w2, w3, hxl3, hs2, hs3, w4, w5] <;> rfl) (by simp -implicitDefEqProofs [e1, e2, e3, s1, s2, s3, w1, w2, w3, hxl3, hs2, hs3, w4, w5] <;> rfl) ?_
        simp -implicitDefEqProofs [e1, e2, e3, s1, s2, s3, w1, w2, w3, hxl3, hs2, hs3, w4, w5]
end Go.Proofs.Ytaobnhenjldjeaa.Pay
/- math/bits: Div64. No statement of the seed is proved here. -/
namespace Go.Proofs.Ytaobnhenjldjeaa.Pay
open Go Go.RowKit
set_option linter.unusedVariables false
set_option linter.unusedSimpArgs false
set_option maxRecDepth 20000

theorem lead_ok (y : Nat) (h0 : 0 < y) (hy : y < 18446744073709551616) : Gives Try.prog 70 [.d (.int .u64 y)] (.d (dI (63 - y.log2 : Nat))) := by
  have hl := len64_ok y h0 hy
  have hb : y.log2 ≤ 63 := by have := (Nat.log2_lt (by omega)).2 (show y < 2 ^ 64 from hy); omega
  have hw : IntKind.i64.wrap (64 - ((y.log2 : Int) + 1)) = ((63 - y.log2 : Nat) : Int) := by rw [wrapI (by omega) (by omega)]; omega
  obtain ⟨r, hr⟩ : ∃ r, 63 - y.log2 = r := ⟨_, rfl⟩
  rw [hr] at hw ⊢
  refine Gives.enter tabOk Try.func70 rfl (by show 1 ≤ 6; decide) ?_
  simp only [Try.f70]
  refine WpC.seq (WpC.ops tabOk (r := []) (by simp -implicitDefEqProofs [hw] <;> rfl) rfl ?_)
  refine WpC.seq ?_
  refine WpC.region ?_
  refine WpO.run tabOk 1 (by simp -implicitDefEqProofs [hw] <;> first | exact ⟨rfl, rfl⟩ | rfl) ?_
  refine WpO.data (by simp) rfl (by simp -implicitDefEqProofs [hw] <;> rfl) (by simp -implicitDefEqProofs [hw] <;> rfl) (by simp -implicitDefEqProofs [hw] <;> rfl) call_69 (by simp) (hl) (by rfl) (by simp -implicitDefEqProofs [hw] <;> rfl) ?_
  refine WpO.run tabOk 2 (by simp -implicitDefEqProofs [hw] <;> first | exact ⟨rfl, rfl⟩ | rfl) ?_
  refine WpO.nil ?_
  refine WpC.ret ?_
  try simp only [blockQ, seqQ]
  refine retD_i (by simp -implicitDefEqProofs [hw] <;> rfl) (by simp -implicitDefEqProofs [hw] <;> rfl) ?_
  simp -implicitDefEqProofs [hw]

theorem quoU (a b : Nat) (ha : a < 18446744073709551616) : IntKind.u64.wrap ((a : Int).tdiv b) = ((a / b : Nat) : Int) := by
  rw [Int.tdiv_eq_ediv_of_nonneg (by omega), ← Int.natCast_ediv, wrapUm, Nat.mod_eq_of_lt (Nat.lt_of_le_of_lt (Nat.div_le_self a b) ha)]
theorem remU (a b : Nat) : (a : Int).tmod b = ((a % b : Nat) : Int) := by
  rw [Int.tmod_eq_emod_of_nonneg (by omega), ← Int.natCast_emod]
theorem orU {a b s : Nat} (hs : s ≤ 64) (h1 : a * 2 ^ s < 18446744073709551616) (h2 : b < 2 ^ s) (h3 : b < 18446744073709551616) : bits .or .u64 ((a * 2 ^ s : Nat) : Int) (b : Int) = ((a * 2 ^ s + b : Nat) : Int) := by
  rw [bits_or_u64_nat _ _ h1 h3, Nat.mul_comm, ← Nat.two_pow_add_eq_or_of_lt h2]
theorem subU {A B C r : Nat} (h : A + B = C + r) (hr : r < 18446744073709551616) : IntKind.u64.wrap (IntKind.u64.wrap (IntKind.u64.wrap (A : Int) + B) - IntKind.u64.wrap (C : Int)) = (r : Int) := by
  simp only [IntKind.wrap_u64]; omega

/-- A digit of 32 bits is looked for. -/
structure Dg (yn1 yn0 u d Q q r : Nat) : Prop where
  e : q * yn1 + r = u
  le : Q ≤ q
section
variable {yn1 yn0 u d Q q r : Nat}
theorem dg_dec (hu : u < yn1 * 4294967296 + yn0) (hd : d < 4294967296) (hQ : (u * 4294967296 + d) / (yn1 * 4294967296 + yn0) = Q) (h : Dg yn1 yn0 u d Q q r) (hc : 4294967296 ≤ q ∨ 4294967296 * r + d < q * yn0) : 0 < q ∧ Dg yn1 yn0 u d Q (q - 1) (r + yn1) := by
  obtain ⟨he, hle⟩ := h
  have hY : 0 < yn1 * 4294967296 + yn0 := by omega
  have hq : 0 < q := by
    rcases hc with hc | hc
    · omega
    · rcases Nat.eq_zero_or_pos q with rfl | h
      · simp at hc
      · exact h
  have hlt : Q < q := by
    rw [← hQ, Nat.div_lt_iff_lt_mul hY]
    rcases hc with hc | hc
    · have h1 : 4294967296 * (yn1 * 4294967296 + yn0) ≤ q * (yn1 * 4294967296 + yn0) := Nat.mul_le_mul_right _ hc
      omega
    · have h1 : q * (yn1 * 4294967296 + yn0) = q * yn1 * 4294967296 + q * yn0 := by rw [Nat.mul_add, Nat.mul_assoc]
      rw [h1]; omega
  refine ⟨hq, ?_, by omega⟩
  have h2 : (q - 1) * yn1 + yn1 = q * yn1 := by rw [← Nat.succ_mul]; congr 1; omega
  omega
theorem dg_end (hu : u < yn1 * 4294967296 + yn0) (hQ : (u * 4294967296 + d) / (yn1 * 4294967296 + yn0) = Q) (h : Dg yn1 yn0 u d Q q r) (hc : q * yn0 ≤ 4294967296 * r + d) : q = Q := by
  obtain ⟨he, hle⟩ := h
  have hY : 0 < yn1 * 4294967296 + yn0 := by omega
  have h1 : q * (yn1 * 4294967296 + yn0) = q * yn1 * 4294967296 + q * yn0 := by rw [Nat.mul_add, Nat.mul_assoc]
  have h2 : q ≤ Q := by
    rw [← hQ, Nat.le_div_iff_mul_le hY, h1]; omega
  omega
theorem dg_far (hu : u < yn1 * 4294967296 + yn0) (h0 : yn0 < 4294967296) (hQ : (u * 4294967296 + d) / (yn1 * 4294967296 + yn0) = Q) (h : Dg yn1 yn0 u d Q q r) (hr : 4294967296 ≤ r) : q = Q := by
  have h1 : q < 4294967296 := by
    rcases Nat.lt_or_ge q 4294967296 with h' | h'
    · exact h'
    · have : 4294967296 * yn1 ≤ q * yn1 := Nat.mul_le_mul_right _ h'
      have := h.e
      omega
  have h2 : q * yn0 ≤ 4294967296 * yn0 := Nat.mul_le_mul_right _ (by omega)
  exact dg_end hu hQ h (by omega)
theorem Dg.qle (h : Dg yn1 yn0 u d Q q r) (h1 : 0 < yn1) : q ≤ u := by
  have h2 := Nat.le_mul_of_pos_right q h1
  have := h.e
  omega
theorem dg_lt (hu : u < yn1 * 4294967296 + yn0) (hd : d < 4294967296) (hQ : (u * 4294967296 + d) / (yn1 * 4294967296 + yn0) = Q) : Q < 4294967296 := by
  rw [← hQ, Nat.div_lt_iff_lt_mul (by omega)]; omega
end
theorem two_gen {M u d1 d0 r1 r0 A B : Nat} (h1 : u * M + d1 = A + r1) (h0 : r1 * M + d0 = B + r0) : u * (M * M) + (d1 * M + d0) = r0 + (A * M + B) := by
  have h2 : (u * M + d1) * M = (A + r1) * M := by rw [h1]
  rw [Nat.add_mul, Nat.add_mul, Nat.mul_assoc] at h2
  omega
theorem two_lin {u d1 d0 r1 r0 A B : Nat} (h1 : u * 4294967296 + d1 = A + r1) (h0 : r1 * 4294967296 + d0 = B + r0) : u * 18446744073709551616 + (d1 * 4294967296 + d0) = r0 + (A * 4294967296 + B) := by
  have h := two_gen h1 h0
  rw [show (4294967296 : Nat) * 4294967296 = 18446744073709551616 from by decide] at h
  exact h
/-- Two digits are the quotient. -/
theorem two_digits {Y u d1 d0 Q1 r1 Q0 r0 : Nat} (hY : 0 < Y) (h1 : u * 4294967296 + d1 = Q1 * Y + r1) (h0 : r1 * 4294967296 + d0 = Q0 * Y + r0) (hr : r0 < Y) :
    (u * 18446744073709551616 + (d1 * 4294967296 + d0)) / Y = Q1 * 4294967296 + Q0 ∧ (u * 18446744073709551616 + (d1 * 4294967296 + d0)) % Y = r0 := by
  have e : u * 18446744073709551616 + (d1 * 4294967296 + d0) = r0 + (Q1 * 4294967296 + Q0) * Y := by
    have : (Q1 * 4294967296 + Q0) * Y = Q1 * Y * 4294967296 + Q0 * Y := by rw [Nat.add_mul, Nat.mul_right_comm]
    rw [this]
    exact two_lin h1 h0
  rw [e]
  exact ⟨by rw [Nat.add_mul_div_right _ _ hY, Nat.div_eq_of_lt hr, Nat.zero_add], by rw [Nat.add_mul_mod_self_right, Nat.mod_eq_of_lt hr]⟩

set_option maxHeartbeats 40000000 in
theorem div64_ok (xh lo y : Nat) (hh : xh < y) (hl : lo < 18446744073709551616) (hy : y < 18446744073709551616) :
    Gives Try.prog 47 [.d (.int .u64 xh), .d (.int .u64 lo), .d (.int .u64 y)] (.tup [.d (.int .u64 (((xh * 18446744073709551616 + lo) / y : Nat) : Int)), .d (.int .u64 (((xh * 18446744073709551616 + lo) % y : Nat) : Int))]) := by
  have hy0 : 0 < y := by omega
  have hlead := lead_ok y hy0 hy
  obtain ⟨s, hs⟩ : ∃ s, 63 - y.log2 = s := ⟨_, rfl⟩
  rw [hs] at hlead
  have hlog : y.log2 ≤ 63 := by have := (Nat.log2_lt (by omega)).2 (show y < 2 ^ 64 from hy); omega
  have hs63 : s ≤ 63 := by omega
  have hq0 := quoU lo y hl
  have hr0 := remU lo y
  have hq0b : IntKind.u64.wrap ((lo : Int) / (y : Int)) = (lo : Int) / (y : Int) := by rw [Int.tdiv_eq_ediv_of_nonneg (by omega)] at hq0; rw [hq0, Int.natCast_ediv]
  have hz1 : ¬ ((y : Int) ≤ xh) := by omega
  have hz2 : ¬ y = 0 := by omega
  have hsw : IntKind.u64.wrap (s : Int) = s := wrapU (by omega) (by omega)
  -- the divisor is moved up
  have hp : 0 < 2 ^ s := Nat.two_pow_pos s
  obtain ⟨P, hP⟩ : ∃ P, 2 ^ s = P := ⟨_, rfl⟩
  have p64 : (2 : Nat) ^ 64 = 18446744073709551616 := by decide
  have p63 : (2 : Nat) ^ 63 = 9223372036854775808 := by decide
  have hpw : 2 ^ s * 2 ^ (64 - s) = 18446744073709551616 := by rw [← Nat.pow_add, show s + (64 - s) = 64 from by omega, p64]
  obtain ⟨R, hR⟩ : ∃ R, 2 ^ (64 - s) = R := ⟨_, rfl⟩
  have hYlo : 9223372036854775808 ≤ y * 2 ^ s := by
    have h1 := Nat.log2_self_le (n := y) (by omega)
    have h2 : 2 ^ y.log2 * 2 ^ s ≤ y * 2 ^ s := Nat.mul_le_mul_right _ h1
    rw [← Nat.pow_add, show y.log2 + s = 63 from by omega, p63] at h2
    exact h2
  have hYhi : y * 2 ^ s < 18446744073709551616 := by
    have h1 := Nat.lt_log2_self (n := y)
    have h2 : y * 2 ^ s < 2 ^ (y.log2 + 1) * 2 ^ s := Nat.mul_lt_mul_of_pos_right h1 hp
    rw [← Nat.pow_add, show y.log2 + 1 + s = 64 from by omega, p64] at h2
    exact h2
  have sh1 := shlU y (k := s) (by omega)
  rw [Nat.mod_eq_of_lt hYhi] at sh1
  obtain ⟨Y, hY⟩ : ∃ Y, y * 2 ^ s = Y := ⟨_, rfl⟩
  have hhs : xh * 2 ^ s + 2 ^ s ≤ y * 2 ^ s := by
    have : (xh + 1) * 2 ^ s ≤ y * 2 ^ s := Nat.mul_le_mul_right _ hh
    rw [Nat.add_mul, Nat.one_mul] at this; exact this
  have sh2 := shlU xh (k := s) (by omega)
  rw [Nat.mod_eq_of_lt (by omega)] at sh2
  have sh3 := shrU lo (k := 64 - s) (by omega)
  have hrl : lo / 2 ^ (64 - s) < 2 ^ s := by
    rw [Nat.div_lt_iff_lt_mul (Nat.two_pow_pos _), hpw]; exact hl
  have sh4 := orU (a := xh) (b := lo / 2 ^ (64 - s)) (s := s) (by omega) (by omega) hrl (by omega)
  have sh5 := shlU lo (k := s) (by omega)
  have hlo2 : lo * 2 ^ s = lo / 2 ^ (64 - s) * 18446744073709551616 + lo * 2 ^ s % 18446744073709551616 := by
    have e1 : lo * 2 ^ s / 18446744073709551616 = lo / 2 ^ (64 - s) := by
      rw [← hpw, Nat.mul_comm lo, Nat.mul_div_mul_left _ _ hp]
    rw [← e1]; omega
  obtain ⟨u, hu⟩ : ∃ u, xh * 2 ^ s + lo / 2 ^ (64 - s) = u := ⟨_, rfl⟩
  obtain ⟨v, hv⟩ : ∃ v, lo * 2 ^ s % 18446744073709551616 = v := ⟨_, rfl⟩
  have hN : (xh * 18446744073709551616 + lo) * 2 ^ s = u * 18446744073709551616 + v := by
    rw [Nat.add_mul, Nat.mul_right_comm]; omega
  have huY : u < Y := by omega
  have hdiv : (xh * 18446744073709551616 + lo) / y = (u * 18446744073709551616 + v) / Y := by
    rw [← hN, ← hY, Nat.mul_div_mul_right _ _ hp]
  have hmod : (xh * 18446744073709551616 + lo) % y = (u * 18446744073709551616 + v) % Y / 2 ^ s := by
    rw [← hN, ← hY, Nat.mul_mod_mul_right, Nat.mul_div_cancel _ hp]
  rw [hY] at sh1 hYlo hYhi
  rw [hu] at sh4
  rw [hv] at sh5
  have hv2 : v < 18446744073709551616 := by omega
  have sw64 : IntKind.u64.wrap (64 - (s : Int)) = ((64 - s : Nat) : Int) := by rw [wrapU (by omega) (by omega)]; omega
  obtain ⟨a1, ha1⟩ : ∃ q, xh * 2 ^ s = q := ⟨_, rfl⟩
  obtain ⟨a2, ha2⟩ : ∃ q, lo / 2 ^ (64 - s) = q := ⟨_, rfl⟩
  obtain ⟨s64, hs64⟩ : ∃ q, 64 - s = q := ⟨_, rfl⟩
  rw [ha1] at sh2 sh4
  rw [ha2] at sh3 sh4
  rw [hs64] at sh3 sw64
  -- halves
  have mk1 := sh32 Y
  have mk2 := maskU Y hYhi
  have mk3 := sh32 v
  have mk4 := maskU v hv2
  obtain ⟨n1, hn1⟩ : ∃ q, Y / 4294967296 = q := ⟨_, rfl⟩
  obtain ⟨n0, hn0⟩ : ∃ q, Y % 4294967296 = q := ⟨_, rfl⟩
  obtain ⟨d1, hd1⟩ : ∃ q, v / 4294967296 = q := ⟨_, rfl⟩
  obtain ⟨d0, hd0⟩ : ∃ q, v % 4294967296 = q := ⟨_, rfl⟩
  rw [hn1] at mk1
  rw [hn0] at mk2
  rw [hd1] at mk3
  rw [hd0] at mk4
  have hYe : n1 * 4294967296 + n0 = Y := by rw [← hn1, ← hn0]; exact Nat.div_add_mod' _ _
  have hve : d1 * 4294967296 + d0 = v := by rw [← hd1, ← hd0]; exact Nat.div_add_mod' _ _
  have hn1lo : 2147483648 ≤ n1 := by omega
  have hn1hi : n1 < 4294967296 := by omega
  have hn0hi : n0 < 4294967296 := by omega
  have hn10 : ¬ n1 = 0 := by omega
  have hd1hi : d1 < 4294967296 := by omega
  have hd0hi : d0 < 4294967296 := by omega
  obtain ⟨Q1, hQ1⟩ : ∃ q, (u * 4294967296 + d1) / Y = q := ⟨_, rfl⟩
  obtain ⟨r1, hr1⟩ : ∃ q, (u * 4294967296 + d1) % Y = q := ⟨_, rfl⟩
  have hdm1 : u * 4294967296 + d1 = Q1 * Y + r1 := by rw [← hQ1, ← hr1]; exact (Nat.div_add_mod' _ _).symm
  have hr1Y : r1 < Y := by rw [← hr1]; exact Nat.mod_lt _ (by omega)
  obtain ⟨Q0, hQ0⟩ : ∃ q, (r1 * 4294967296 + d0) / Y = q := ⟨_, rfl⟩
  obtain ⟨r0, hr0'⟩ : ∃ q, (r1 * 4294967296 + d0) % Y = q := ⟨_, rfl⟩
  have hdm0 : r1 * 4294967296 + d0 = Q0 * Y + r0 := by rw [← hQ0, ← hr0']; exact (Nat.div_add_mod' _ _).symm
  have hr0Y : r0 < Y := by rw [← hr0']; exact Nat.mod_lt _ (by omega)
  obtain ⟨td1, td2⟩ := two_digits (by omega) hdm1 hdm0 hr0Y
  rw [hve] at td1 td2
  rw [td1] at hdiv
  rw [td2] at hmod
  have hu' : u < n1 * 4294967296 + n0 := by omega
  have hr1' : r1 < n1 * 4294967296 + n0 := by omega
  rw [← hYe] at hQ1 hQ0
  have hQ1l := dg_lt hu' hd1hi hQ1
  have hQ0l := dg_lt hr1' hd0hi hQ0
  have fq1 : IntKind.u64.wrap ((u : Int).tdiv n1) = ((u / n1 : Nat) : Int) := quoU u n1 (by omega)
  have fq0 : IntKind.u64.wrap ((r1 : Int).tdiv n1) = ((r1 / n1 : Nat) : Int) := quoU r1 n1 (by omega)
  obtain ⟨b1, hb1⟩ : ∃ q, u / n1 = q := ⟨_, rfl⟩
  obtain ⟨b0, hb0⟩ : ∃ q, r1 / n1 = q := ⟨_, rfl⟩
  rw [hb1] at fq1
  rw [hb0] at fq0
  have fq1b : IntKind.u64.wrap ((u : Int) / (n1 : Int)) = (b1 : Int) := by rw [Int.tdiv_eq_ediv_of_nonneg (by omega)] at fq1; exact fq1
  have fq0b : IntKind.u64.wrap ((r1 : Int) / (n1 : Int)) = (b0 : Int) := by rw [Int.tdiv_eq_ediv_of_nonneg (by omega)] at fq0; exact fq0
  have start : ∀ {w d Q b : Nat}, w < n1 * 4294967296 + n0 → d < 4294967296 → (w * 4294967296 + d) / (n1 * 4294967296 + n0) = Q → w / n1 = b → ∃ p r, b * n1 = p ∧ p < 18446744073709551616 ∧ w - p = r ∧ p ≤ w ∧ r < 4294967296 ∧ Dg n1 n0 w d Q b r := by
    intro w d Q b hw hd hQ hb
    have e1 : b * n1 + w % n1 = w := by rw [← hb]; exact Nat.div_add_mod' _ _
    have e2 : w % n1 < n1 := Nat.mod_lt _ (by omega)
    refine ⟨b * n1, w - b * n1, rfl, by omega, rfl, by omega, by omega, by omega, ?_⟩
    rw [← hQ, ← hb, Nat.le_div_iff_mul_le (by omega)]
    have e3 := Nat.div_mul_le_self (w * 4294967296 + d) (n1 * 4294967296 + n0)
    obtain ⟨q, hq⟩ : ∃ q, (w * 4294967296 + d) / (n1 * 4294967296 + n0) = q := ⟨_, rfl⟩
    rw [hq] at e3 ⊢
    have e4 : q * (n1 * 4294967296 + n0) = q * n1 * 4294967296 + q * n0 := by rw [Nat.mul_add, Nat.mul_assoc]
    omega
  obtain ⟨p1, t1, hp1, hp1l, ht1, hp1u, ht1l, hg1⟩ := start hu' hd1hi hQ1 hb1
  obtain ⟨p0, t0, hp0, hp0l, ht0, hp0u, ht0l, hg0⟩ := start hr1' hd0hi hQ0 hb0
  have fm1 := mulU hp1 hp1l
  have fm0 := mulU hp0 hp0l
  have fs1 : IntKind.u64.wrap ((u : Int) - p1) = (t1 : Int) := by rw [wrapU (by omega) (by omega)]; omega
  have fs0 : IntKind.u64.wrap ((r1 : Int) - p0) = (t0 : Int) := by rw [wrapU (by omega) (by omega)]; omega
  have fr1 : IntKind.u64.wrap (IntKind.u64.wrap (IntKind.u64.wrap ((u : Int) * 4294967296) + d1) - IntKind.u64.wrap ((Q1 : Int) * Y)) = (r1 : Int) := by
    have := subU hdm1 (by omega); rwa [Int.natCast_mul, Int.natCast_mul] at this
  have fr0 : IntKind.u64.wrap (IntKind.u64.wrap (IntKind.u64.wrap ((r1 : Int) * 4294967296) + d0) - IntKind.u64.wrap ((Q0 : Int) * Y)) = (r0 : Int) := by
    have := subU hdm0 (by omega); rwa [Int.natCast_mul, Int.natCast_mul] at this
  obtain ⟨z1, hz1'⟩ : ∃ q, Q1 * 4294967296 = q := ⟨_, rfl⟩
  have ff1 : IntKind.u64.wrap ((Q1 : Int) * 4294967296) = (z1 : Int) := mulU (b := 4294967296) hz1' (by omega)
  obtain ⟨z, hz'⟩ : ∃ q, z1 + Q0 = q := ⟨_, rfl⟩
  have ff2 := addU hz' (by omega)
  have ff3 := shrU r0 (k := s) (by omega)
  have hz3 : (s : Int).toNat = s := by omega
  rw [hdiv, hmod, hz1', hz']
  obtain ⟨rr, hrr⟩ : ∃ q, r0 / 2 ^ s = q := ⟨_, rfl⟩
  rw [hrr] at ff3 ⊢
  refine Gives.enter tabOk Try.func47 rfl (by show 3 ≤ 135; decide) ?_
  simp only [Try.f47]
  refine WpC.seq (WpC.ops tabOk (r := []) (by simp -implicitDefEqProofs [hz1, hz2, hn10, hsw, sh1, sh2, sh3, sh4, sh5, sw64, mk1, mk2, mk3, mk4, fq1, fq0, fq1b, fq0b, fm1, fm0, fs1, fs0, fr1, fr0, ff1, ff2, ff3] <;> rfl) rfl ?_)
  refine WpC.seq ?_
  refine WpC.seq (WpC.ops tabOk (r := []) (by simp -implicitDefEqProofs [hz1, hz2, hn10, hsw, sh1, sh2, sh3, sh4, sh5, sw64, mk1, mk2, mk3, mk4, fq1, fq0, fq1b, fq0b, fm1, fm0, fs1, fs0, fr1, fr0, ff1, ff2, ff3] <;> rfl) rfl ?_)
  refine WpC.condF (by simp -implicitDefEqProofs [hz1, hz2, hn10, hsw, sh1, sh2, sh3, sh4, sh5, sw64, mk1, mk2, mk3, mk4, fq1, fq0, fq1b, fq0b, fm1, fm0, fs1, fs0, fr1, fr0, ff1, ff2, ff3] <;> rfl) ?_
  refine WpC.skip ?_
  refine WpC.seq ?_
  refine WpC.seq (WpC.ops tabOk (r := []) (by simp -implicitDefEqProofs [hz1, hz2, hn10, hsw, sh1, sh2, sh3, sh4, sh5, sw64, mk1, mk2, mk3, mk4, fq1, fq0, fq1b, fq0b, fm1, fm0, fs1, fs0, fr1, fr0, ff1, ff2, ff3] <;> rfl) rfl ?_)
  refine WpC.condF (by simp -implicitDefEqProofs [hz1, hz2, hn10, hsw, sh1, sh2, sh3, sh4, sh5, sw64, mk1, mk2, mk3, mk4, fq1, fq0, fq1b, fq0b, fm1, fm0, fs1, fs0, fr1, fr0, ff1, ff2, ff3] <;> rfl) ?_
  refine WpC.skip ?_
  refine WpC.seq ?_
  refine WpC.seq (WpC.ops tabOk (r := []) (by simp -implicitDefEqProofs [hz1, hz2, hn10, hsw, sh1, sh2, sh3, sh4, sh5, sw64, mk1, mk2, mk3, mk4, fq1, fq0, fq1b, fq0b, fm1, fm0, fs1, fs0, fr1, fr0, ff1, ff2, ff3] <;> rfl) rfl ?_)
  refine WpC.condD (xh = 0) (by simp -implicitDefEqProofs [hz1, hz2, hn10, hsw, sh1, sh2, sh3, sh4, sh5, sw64, mk1, mk2, mk3, mk4, fq1, fq0, fq1b, fq0b, fm1, fm0, fs1, fs0, fr1, fr0, ff1, ff2, ff3]) (fun d27 => ?_) (fun d27 => ?_)
  · have hd2 : (xh * 18446744073709551616 + lo) / y = lo / y := by rw [d27, Nat.zero_mul, Nat.zero_add]
    have hm2 : (xh * 18446744073709551616 + lo) % y = lo % y := by rw [d27, Nat.zero_mul, Nat.zero_add]
    have hd3 : z = lo / y := by rw [← hd2, hdiv, hz1', hz']
    have hm3 : rr = lo % y := by rw [← hm2, hmod, hrr]
    rw [hd3, hm3]
    refine WpC.seq (WpC.drawn tabOk (by kernel_rfl) 0 (by simp) ?_)
    refine DrO.run (fz := []) 3 (by simp -implicitDefEqProofs [hz1, hz2, hn10, hsw, sh1, sh2, sh3, sh4, sh5, sw64, mk1, mk2, mk3, mk4, fq1, fq0, fq1b, fq0b, fm1, fm0, fs1, fs0, fr1, fr0, ff1, ff2, ff3, d27, hq0, hr0, hq0b] <;> first | exact ⟨rfl, rfl, rfl, rfl⟩ | rfl) ?_
    refine DrO.run (fz := []) 3 (by simp -implicitDefEqProofs [hz1, hz2, hn10, hsw, sh1, sh2, sh3, sh4, sh5, sw64, mk1, mk2, mk3, mk4, fq1, fq0, fq1b, fq0b, fm1, fm0, fs1, fs0, fr1, fr0, ff1, ff2, ff3, d27, hq0, hr0, hq0b] <;> first | exact ⟨rfl, rfl, rfl, rfl⟩ | rfl) ?_
    refine DrO.run (fz := []) 2 (by simp -implicitDefEqProofs [hz1, hz2, hn10, hsw, sh1, sh2, sh3, sh4, sh5, sw64, mk1, mk2, mk3, mk4, fq1, fq0, fq1b, fq0b, fm1, fm0, fs1, fs0, fr1, fr0, ff1, ff2, ff3, d27, hq0, hr0, hq0b] <;> first | exact ⟨rfl, rfl, rfl, rfl⟩ | rfl) ?_
    refine DrO.nil ⟨by kernel_rfl, ?_⟩
    refine WpC.ret ?_
    try simp only [blockQ, seqQ]
    refine retD_i (by simp -implicitDefEqProofs [hz1, hz2, hn10, hsw, sh1, sh2, sh3, sh4, sh5, sw64, mk1, mk2, mk3, mk4, fq1, fq0, fq1b, fq0b, fm1, fm0, fs1, fs0, fr1, fr0, ff1, ff2, ff3, d27, hq0, hr0, hq0b] <;> rfl) (by simp -implicitDefEqProofs [hz1, hz2, hn10, hsw, sh1, sh2, sh3, sh4, sh5, sw64, mk1, mk2, mk3, mk4, fq1, fq0, fq1b, fq0b, fm1, fm0, fs1, fs0, fr1, fr0, ff1, ff2, ff3, d27, hq0, hr0, hq0b] <;> rfl) ?_
    simp -implicitDefEqProofs [hz1, hz2, hn10, hsw, sh1, sh2, sh3, sh4, sh5, sw64, mk1, mk2, mk3, mk4, fq1, fq0, fq1b, fq0b, fm1, fm0, fs1, fs0, fr1, fr0, ff1, ff2, ff3, d27, hq0, hr0, hq0b]
  · refine WpC.skip ?_
    refine WpC.seq ?_
    refine WpC.region ?_
    refine WpO.run tabOk 1 (by simp -implicitDefEqProofs [hz1, hz2, hn10, hsw, sh1, sh2, sh3, sh4, sh5, sw64, mk1, mk2, mk3, mk4, fq1, fq0, fq1b, fq0b, fm1, fm0, fs1, fs0, fr1, fr0, ff1, ff2, ff3, d27] <;> first | exact ⟨rfl, rfl⟩ | rfl) ?_
    refine WpO.data (by simp) rfl (by simp -implicitDefEqProofs [hz1, hz2, hn10, hsw, sh1, sh2, sh3, sh4, sh5, sw64, mk1, mk2, mk3, mk4, fq1, fq0, fq1b, fq0b, fm1, fm0, fs1, fs0, fr1, fr0, ff1, ff2, ff3, d27] <;> rfl) (by simp -implicitDefEqProofs [hz1, hz2, hn10, hsw, sh1, sh2, sh3, sh4, sh5, sw64, mk1, mk2, mk3, mk4, fq1, fq0, fq1b, fq0b, fm1, fm0, fs1, fs0, fr1, fr0, ff1, ff2, ff3, d27] <;> rfl) (by simp -implicitDefEqProofs [hz1, hz2, hn10, hsw, sh1, sh2, sh3, sh4, sh5, sw64, mk1, mk2, mk3, mk4, fq1, fq0, fq1b, fq0b, fm1, fm0, fs1, fs0, fr1, fr0, ff1, ff2, ff3, d27] <;> rfl) call_70 (by simp) (hlead) (by rfl) (by simp -implicitDefEqProofs [hz1, hz2, hn10, hsw, sh1, sh2, sh3, sh4, sh5, sw64, mk1, mk2, mk3, mk4, fq1, fq0, fq1b, fq0b, fm1, fm0, fs1, fs0, fr1, fr0, ff1, ff2, ff3, d27] <;> rfl) ?_
    refine WpO.run tabOk 2 (by simp -implicitDefEqProofs [hz1, hz2, hn10, hsw, sh1, sh2, sh3, sh4, sh5, sw64, mk1, mk2, mk3, mk4, fq1, fq0, fq1b, fq0b, fm1, fm0, fs1, fs0, fr1, fr0, ff1, ff2, ff3, d27] <;> first | exact ⟨rfl, rfl⟩ | rfl) ?_
    refine WpO.nil ?_
    refine WpC.seq (WpC.ops tabOk (r := []) (by simp -implicitDefEqProofs [hz1, hz2, hn10, hsw, sh1, sh2, sh3, sh4, sh5, sw64, mk1, mk2, mk3, mk4, fq1, fq0, fq1b, fq0b, fm1, fm0, fs1, fs0, fr1, fr0, ff1, ff2, ff3, d27] <;> rfl) rfl ?_)
    refine WpC.seq (WpC.ops tabOk (r := []) (by simp -implicitDefEqProofs [hz1, hz2, hn10, hsw, sh1, sh2, sh3, sh4, sh5, sw64, mk1, mk2, mk3, mk4, fq1, fq0, fq1b, fq0b, fm1, fm0, fs1, fs0, fr1, fr0, ff1, ff2, ff3, d27] <;> rfl) rfl ?_)
    refine WpC.seq (WpC.ops tabOk (r := []) (by simp -implicitDefEqProofs [hz1, hz2, hn10, hsw, sh1, sh2, sh3, sh4, sh5, sw64, mk1, mk2, mk3, mk4, fq1, fq0, fq1b, fq0b, fm1, fm0, fs1, fs0, fr1, fr0, ff1, ff2, ff3, d27] <;> rfl) rfl ?_)
    refine WpC.seq (WpC.ops tabOk (r := []) (by simp -implicitDefEqProofs [hz1, hz2, hn10, hsw, sh1, sh2, sh3, sh4, sh5, sw64, mk1, mk2, mk3, mk4, fq1, fq0, fq1b, fq0b, fm1, fm0, fs1, fs0, fr1, fr0, ff1, ff2, ff3, d27] <;> rfl) rfl ?_)
    refine WpC.seq (WpC.ops tabOk (r := []) (by simp -implicitDefEqProofs [hz1, hz2, hn10, hsw, sh1, sh2, sh3, sh4, sh5, sw64, mk1, mk2, mk3, mk4, fq1, fq0, fq1b, fq0b, fm1, fm0, fs1, fs0, fr1, fr0, ff1, ff2, ff3, d27] <;> rfl) rfl ?_)
    refine WpC.seq (WpC.ops tabOk (r := []) (by simp -implicitDefEqProofs [hz1, hz2, hn10, hsw, sh1, sh2, sh3, sh4, sh5, sw64, mk1, mk2, mk3, mk4, fq1, fq0, fq1b, fq0b, fm1, fm0, fs1, fs0, fr1, fr0, ff1, ff2, ff3, d27] <;> rfl) rfl ?_)
    refine WpC.seq (WpC.ops tabOk (r := []) (by simp -implicitDefEqProofs [hz1, hz2, hn10, hsw, sh1, sh2, sh3, sh4, sh5, sw64, mk1, mk2, mk3, mk4, fq1, fq0, fq1b, fq0b, fm1, fm0, fs1, fs0, fr1, fr0, ff1, ff2, ff3, d27] <;> rfl) rfl ?_)
    refine WpC.seq (WpC.ops tabOk (r := []) (by simp -implicitDefEqProofs [hz1, hz2, hn10, hsw, sh1, sh2, sh3, sh4, sh5, sw64, mk1, mk2, mk3, mk4, fq1, fq0, fq1b, fq0b, fm1, fm0, fs1, fs0, fr1, fr0, ff1, ff2, ff3, d27] <;> rfl) rfl ?_)
    refine WpC.seq (WpC.ops tabOk (r := []) (by simp -implicitDefEqProofs [hz1, hz2, hn10, hsw, sh1, sh2, sh3, sh4, sh5, sw64, mk1, mk2, mk3, mk4, fq1, fq0, fq1b, fq0b, fm1, fm0, fs1, fs0, fr1, fr0, ff1, ff2, ff3, d27] <;> rfl) rfl ?_)
    refine WpC.seq ?_
    refine WpC.join ⟨[(2, .d (.int .u64 Y)), (8, .d (.int .u64 s)), (9, .d (.int .u64 n1)), (10, .d (.int .u64 n0)), (11, .d (.int .u64 u)), (13, .d (.int .u64 d1)), (14, .d (.int .u64 d0)), (15, .d (.int .u64 Q1))], [], 135, 0⟩ ?_ ?_
    · refine WpC.block ?_
      refine WpC.loopM [2, 8, 9, 10, 11, 13, 14] [15, 16] (fun x => x.1) ((b1, t1) : Nat × Nat) (fun x => [(15, .d (.int .u64 (x.1 : Nat))), (16, .d (.int .u64 (x.2 : Nat)))]) (fun x => []) (fun x => Dg n1 n0 u d1 Q1 x.1 x.2 ∧ x.2 < 4294967296) (by simp -implicitDefEqProofs [hz1, hz2, hn10, hsw, sh1, sh2, sh3, sh4, sh5, sw64, mk1, mk2, mk3, mk4, fq1, fq0, fq1b, fq0b, fm1, fm0, fs1, fs0, fr1, fr0, ff1, ff2, ff3, d27] <;> rfl) (Gh.cut' [15, 16, 2, 8, 9, 10, 11, 13, 14] 0 (by simp -implicitDefEqProofs [hz1, hz2, hn10, hsw, sh1, sh2, sh3, sh4, sh5, sw64, mk1, mk2, mk3, mk4, fq1, fq0, fq1b, fq0b, fm1, fm0, fs1, fs0, fr1, fr0, ff1, ff2, ff3, d27]) (by simp -implicitDefEqProofs [hz1, hz2, hn10, hsw, sh1, sh2, sh3, sh4, sh5, sw64, mk1, mk2, mk3, mk4, fq1, fq0, fq1b, fq0b, fm1, fm0, fs1, fs0, fr1, fr0, ff1, ff2, ff3, d27]) rfl (by simp) (by simp) (by simp)) (⟨hg1, ht1l⟩) ?_
      rintro x hi
      simp only [List.cons_append, List.nil_append]
      obtain ⟨q, r⟩ := x
      obtain ⟨hi, hrl⟩ := hi
      simp only at hi hrl ⊢
      have hqb : q ≤ u := hi.qle (by omega)
      refine WpC.seq ?_
      refine WpC.seq ?_
      refine WpC.val 78 (.d (.bool (decide (4294967296 ≤ q ∨ 4294967296 * r + d1 < q * n0)))) ?_ ?_
      · refine WpC.region ?_
        refine WpO.run tabOk 3 (by simp -implicitDefEqProofs [hz1, hz2, hn10, hsw, sh1, sh2, sh3, sh4, sh5, sw64, mk1, mk2, mk3, mk4, fq1, fq0, fq1b, fq0b, fm1, fm0, fs1, fs0, fr1, fr0, ff1, ff2, ff3, d27] <;> first | exact ⟨rfl, rfl⟩ | rfl) ?_
        refine WpO.splitB 69 (by simp -implicitDefEqProofs [hz1, hz2, hn10, hsw, sh1, sh2, sh3, sh4, sh5, sw64, mk1, mk2, mk3, mk4, fq1, fq0, fq1b, fq0b, fm1, fm0, fs1, fs0, fr1, fr0, ff1, ff2, ff3, d27] <;> rfl) (by rfl) (fun g69 => ?_) (fun g69 => ?_)
        · have g69' := g69; first | simp only [dT, dF] at g69' | try simp at g69'
          refine WpO.run tabOk 9 (by simp -implicitDefEqProofs [hz1, hz2, hn10, hsw, sh1, sh2, sh3, sh4, sh5, sw64, mk1, mk2, mk3, mk4, fq1, fq0, fq1b, fq0b, fm1, fm0, fs1, fs0, fr1, fr0, ff1, ff2, ff3, d27, g69] <;> first | exact ⟨rfl, rfl⟩ | rfl) ?_
          refine WpO.nil ?_
          refine ⟨rfl, Gh.only 78 13 ?_ (by first | rfl | simp -implicitDefEqProofs [hz1, hz2, hn10, hsw, sh1, sh2, sh3, sh4, sh5, sw64, mk1, mk2, mk3, mk4, fq1, fq0, fq1b, fq0b, fm1, fm0, fs1, fs0, fr1, fr0, ff1, ff2, ff3, d27, g69]) (by rfl)⟩
          simp -implicitDefEqProofs [hz1, hz2, hn10, hsw, sh1, sh2, sh3, sh4, sh5, sw64, mk1, mk2, mk3, mk4, fq1, fq0, fq1b, fq0b, fm1, fm0, fs1, fs0, fr1, fr0, ff1, ff2, ff3, d27, g69, g69'] <;> omega
        · have g69' := g69; first | simp only [dT, dF] at g69' | try simp at g69'
          have hql : q < 4294967296 := by simp at g69; omega
          obtain ⟨pq, hpq⟩ : ∃ p, q * n0 = p := ⟨_, rfl⟩
          have hpl : pq < 18446744073709551616 := by
            have : q * n0 ≤ 4294967296 * n0 := Nat.mul_le_mul_right _ (by omega)
            omega
          have em1 := mulU hpq hpl
          have em2 : IntKind.u64.wrap (4294967296 * (r : Int)) = 4294967296 * (r : Int) := wrapU (by omega) (by omega)
          have em3 : IntKind.u64.wrap (4294967296 * (r : Int) + d1) = 4294967296 * (r : Int) + d1 := wrapU (by omega) (by omega)
          have hqf : ¬ 4294967296 ≤ q := by omega
          have em6 : (4294967296 * (r : Int) + (d1 : Int) < (pq : Int)) = (4294967296 * r + d1 < pq) := propext ⟨fun h => by omega, fun h => by omega⟩
          refine WpO.run tabOk 9 (by simp -implicitDefEqProofs [hz1, hz2, hn10, hsw, sh1, sh2, sh3, sh4, sh5, sw64, mk1, mk2, mk3, mk4, fq1, fq0, fq1b, fq0b, fm1, fm0, fs1, fs0, fr1, fr0, ff1, ff2, ff3, d27, g69, hpq, em1, em2, em3, em6, hqf] <;> first | exact ⟨rfl, rfl⟩ | rfl) ?_
          refine WpO.nil ?_
          refine ⟨rfl, Gh.only 78 13 ?_ (by first | rfl | simp -implicitDefEqProofs [hz1, hz2, hn10, hsw, sh1, sh2, sh3, sh4, sh5, sw64, mk1, mk2, mk3, mk4, fq1, fq0, fq1b, fq0b, fm1, fm0, fs1, fs0, fr1, fr0, ff1, ff2, ff3, d27, g69, hpq, em1, em2, em3, em6, hqf]) (by rfl)⟩
          simp -implicitDefEqProofs [hz1, hz2, hn10, hsw, sh1, sh2, sh3, sh4, sh5, sw64, mk1, mk2, mk3, mk4, fq1, fq0, fq1b, fq0b, fm1, fm0, fs1, fs0, fr1, fr0, ff1, ff2, ff3, d27, g69, hpq, em1, em2, em3, em6, hqf, g69'] <;> omega
      refine WpC.condD (4294967296 ≤ q ∨ 4294967296 * r + d1 < q * n0) (by simp -implicitDefEqProofs [hz1, hz2, hn10, hsw, sh1, sh2, sh3, sh4, sh5, sw64, mk1, mk2, mk3, mk4, fq1, fq0, fq1b, fq0b, fm1, fm0, fs1, fs0, fr1, fr0, ff1, ff2, ff3, d27]) (fun d78 => ?_) (fun d78 => ?_)
      · obtain ⟨hq0, hdg⟩ := dg_dec hu' hd1hi hQ1 hi d78
        obtain ⟨q', hq'⟩ : ∃ p, q - 1 = p := ⟨_, rfl⟩
        obtain ⟨r', hr'⟩ : ∃ p, r + n1 = p := ⟨_, rfl⟩
        rw [hq', hr'] at hdg
        have em4 : IntKind.u64.wrap ((q : Int) - 1) = (q' : Int) := by rw [wrapU (by omega) (by omega)]; omega
        have em5 : IntKind.u64.wrap ((r : Int) + n1) = (r' : Int) := by rw [wrapU (by omega) (by omega)]; omega
        refine WpC.skip ?_
        refine WpC.block ?_
        refine WpC.seq (WpC.ops tabOk (r := []) (by simp -implicitDefEqProofs [hz1, hz2, hn10, hsw, sh1, sh2, sh3, sh4, sh5, sw64, mk1, mk2, mk3, mk4, fq1, fq0, fq1b, fq0b, fm1, fm0, fs1, fs0, fr1, fr0, ff1, ff2, ff3, d27, d78, em4, em5] <;> rfl) rfl ?_)
        refine WpC.seq (WpC.ops tabOk (r := []) (by simp -implicitDefEqProofs [hz1, hz2, hn10, hsw, sh1, sh2, sh3, sh4, sh5, sw64, mk1, mk2, mk3, mk4, fq1, fq0, fq1b, fq0b, fm1, fm0, fs1, fs0, fr1, fr0, ff1, ff2, ff3, d27, d78, em4, em5] <;> rfl) rfl ?_)
        refine WpC.seq (WpC.ops tabOk (r := []) (by simp -implicitDefEqProofs [hz1, hz2, hn10, hsw, sh1, sh2, sh3, sh4, sh5, sw64, mk1, mk2, mk3, mk4, fq1, fq0, fq1b, fq0b, fm1, fm0, fs1, fs0, fr1, fr0, ff1, ff2, ff3, d27, d78, em4, em5] <;> rfl) rfl ?_)
        refine WpC.condR (by simp -implicitDefEqProofs [hz1, hz2, hn10, hsw, sh1, sh2, sh3, sh4, sh5, sw64, mk1, mk2, mk3, mk4, fq1, fq0, fq1b, fq0b, fm1, fm0, fs1, fs0, fr1, fr0, ff1, ff2, ff3, d27, d78, em4, em5] <;> rfl) (by rfl) (fun c85 => ?_) (fun c85 => ?_)
        · have c85' := c85; first | simp only [dT, dF] at c85' | try simp at c85'
          refine WpC.exit ?_
          first
          | (have hqq : q = Q1 := dg_end hu' hQ1 hi (by omega); subst hqq)
          | (have hqq : q' = Q1 := dg_far hu' hn0hi hQ1 hdg (by simp at c85; omega); subst hqq)
          exact ⟨rfl, Gh.cut' [2, 8, 9, 10, 11, 13, 14, 15] 0 (by simp -implicitDefEqProofs [hz1, hz2, hn10, hsw, sh1, sh2, sh3, sh4, sh5, sw64, mk1, mk2, mk3, mk4, fq1, fq0, fq1b, fq0b, fm1, fm0, fs1, fs0, fr1, fr0, ff1, ff2, ff3, d27, d78, em4, em5, c85, c85']) (by simp -implicitDefEqProofs [hz1, hz2, hn10, hsw, sh1, sh2, sh3, sh4, sh5, sw64, mk1, mk2, mk3, mk4, fq1, fq0, fq1b, fq0b, fm1, fm0, fs1, fs0, fr1, fr0, ff1, ff2, ff3, d27, d78, em4, em5, c85, c85']) rfl (by simp) (by simp) (by simp)⟩
        · have c85' := c85; first | simp only [dT, dF] at c85' | try simp at c85'
          refine WpC.skip ?_
          exact ⟨(q', r'), ⟨hdg, by simp at c85; show r' < _; omega⟩, by show q' < q; omega, Gh.cut' [15, 16, 2, 8, 9, 10, 11, 13, 14] 0 (by simp -implicitDefEqProofs [hz1, hz2, hn10, hsw, sh1, sh2, sh3, sh4, sh5, sw64, mk1, mk2, mk3, mk4, fq1, fq0, fq1b, fq0b, fm1, fm0, fs1, fs0, fr1, fr0, ff1, ff2, ff3, d27, d78, em4, em5, c85, c85']) (by simp) rfl (by simp) (by simp) (by simp)⟩
      · refine WpC.exit ?_
        first
        | (have hqq : q = Q1 := dg_end hu' hQ1 hi (by omega); subst hqq)
        | (have hqq : q' = Q1 := dg_far hu' hn0hi hQ1 hdg (by simp at c85; omega); subst hqq)
        exact ⟨rfl, Gh.cut' [2, 8, 9, 10, 11, 13, 14, 15] 0 (by simp -implicitDefEqProofs [hz1, hz2, hn10, hsw, sh1, sh2, sh3, sh4, sh5, sw64, mk1, mk2, mk3, mk4, fq1, fq0, fq1b, fq0b, fm1, fm0, fs1, fs0, fr1, fr0, ff1, ff2, ff3, d27, d78]) (by simp -implicitDefEqProofs [hz1, hz2, hn10, hsw, sh1, sh2, sh3, sh4, sh5, sw64, mk1, mk2, mk3, mk4, fq1, fq0, fq1b, fq0b, fm1, fm0, fs1, fs0, fr1, fr0, ff1, ff2, ff3, d27, d78]) rfl (by simp) (by simp) (by simp)⟩
    · refine WpC.seq (WpC.ops tabOk (r := []) (by simp -implicitDefEqProofs [hz1, hz2, hn10, hsw, sh1, sh2, sh3, sh4, sh5, sw64, mk1, mk2, mk3, mk4, fq1, fq0, fq1b, fq0b, fm1, fm0, fs1, fs0, fr1, fr0, ff1, ff2, ff3, d27] <;> rfl) rfl ?_)
      refine WpC.seq (WpC.ops tabOk (r := []) (by simp -implicitDefEqProofs [hz1, hz2, hn10, hsw, sh1, sh2, sh3, sh4, sh5, sw64, mk1, mk2, mk3, mk4, fq1, fq0, fq1b, fq0b, fm1, fm0, fs1, fs0, fr1, fr0, ff1, ff2, ff3, d27] <;> rfl) rfl ?_)
      refine WpC.seq (WpC.ops tabOk (r := []) (by simp -implicitDefEqProofs [hz1, hz2, hn10, hsw, sh1, sh2, sh3, sh4, sh5, sw64, mk1, mk2, mk3, mk4, fq1, fq0, fq1b, fq0b, fm1, fm0, fs1, fs0, fr1, fr0, ff1, ff2, ff3, d27] <;> rfl) rfl ?_)
      refine WpC.seq ?_
      refine WpC.join ⟨[(2, .d (.int .u64 Y)), (8, .d (.int .u64 s)), (14, .d (.int .u64 d0)), (15, .d (.int .u64 Q1)), (17, .d (.int .u64 r1)), (18, .d (.int .u64 Q0))], [], 135, 0⟩ ?_ ?_
      · refine WpC.block ?_
        refine WpC.loopM [2, 8, 9, 10, 14, 15, 17] [16, 18] (fun x => x.1) ((b0, t0) : Nat × Nat) (fun x => [(16, .d (.int .u64 (x.2 : Nat))), (18, .d (.int .u64 (x.1 : Nat)))]) (fun x => []) (fun x => Dg n1 n0 r1 d0 Q0 x.1 x.2 ∧ x.2 < 4294967296) (by simp -implicitDefEqProofs [hz1, hz2, hn10, hsw, sh1, sh2, sh3, sh4, sh5, sw64, mk1, mk2, mk3, mk4, fq1, fq0, fq1b, fq0b, fm1, fm0, fs1, fs0, fr1, fr0, ff1, ff2, ff3, d27] <;> rfl) (Gh.cut' [16, 18, 2, 8, 9, 10, 14, 15, 17] 0 (by simp -implicitDefEqProofs [hz1, hz2, hn10, hsw, sh1, sh2, sh3, sh4, sh5, sw64, mk1, mk2, mk3, mk4, fq1, fq0, fq1b, fq0b, fm1, fm0, fs1, fs0, fr1, fr0, ff1, ff2, ff3, d27]) (by simp -implicitDefEqProofs [hz1, hz2, hn10, hsw, sh1, sh2, sh3, sh4, sh5, sw64, mk1, mk2, mk3, mk4, fq1, fq0, fq1b, fq0b, fm1, fm0, fs1, fs0, fr1, fr0, ff1, ff2, ff3, d27]) rfl (by simp) (by simp) (by simp)) (⟨hg0, ht0l⟩) ?_
        rintro x hi
        simp only [List.cons_append, List.nil_append]
        obtain ⟨q, r⟩ := x
        obtain ⟨hi, hrl⟩ := hi
        simp only at hi hrl ⊢
        have hqb : q ≤ r1 := hi.qle (by omega)
        refine WpC.seq ?_
        refine WpC.seq ?_
        refine WpC.val 113 (.d (.bool (decide (4294967296 ≤ q ∨ 4294967296 * r + d0 < q * n0)))) ?_ ?_
        · refine WpC.region ?_
          refine WpO.run tabOk 3 (by simp -implicitDefEqProofs [hz1, hz2, hn10, hsw, sh1, sh2, sh3, sh4, sh5, sw64, mk1, mk2, mk3, mk4, fq1, fq0, fq1b, fq0b, fm1, fm0, fs1, fs0, fr1, fr0, ff1, ff2, ff3, d27] <;> first | exact ⟨rfl, rfl⟩ | rfl) ?_
          refine WpO.splitB 104 (by simp -implicitDefEqProofs [hz1, hz2, hn10, hsw, sh1, sh2, sh3, sh4, sh5, sw64, mk1, mk2, mk3, mk4, fq1, fq0, fq1b, fq0b, fm1, fm0, fs1, fs0, fr1, fr0, ff1, ff2, ff3, d27] <;> rfl) (by rfl) (fun g104 => ?_) (fun g104 => ?_)
          · have g104' := g104; first | simp only [dT, dF] at g104' | try simp at g104'
            refine WpO.run tabOk 9 (by simp -implicitDefEqProofs [hz1, hz2, hn10, hsw, sh1, sh2, sh3, sh4, sh5, sw64, mk1, mk2, mk3, mk4, fq1, fq0, fq1b, fq0b, fm1, fm0, fs1, fs0, fr1, fr0, ff1, ff2, ff3, d27, g104] <;> first | exact ⟨rfl, rfl⟩ | rfl) ?_
            refine WpO.nil ?_
            refine ⟨rfl, Gh.only 113 13 ?_ (by first | rfl | simp -implicitDefEqProofs [hz1, hz2, hn10, hsw, sh1, sh2, sh3, sh4, sh5, sw64, mk1, mk2, mk3, mk4, fq1, fq0, fq1b, fq0b, fm1, fm0, fs1, fs0, fr1, fr0, ff1, ff2, ff3, d27, g104]) (by rfl)⟩
            simp -implicitDefEqProofs [hz1, hz2, hn10, hsw, sh1, sh2, sh3, sh4, sh5, sw64, mk1, mk2, mk3, mk4, fq1, fq0, fq1b, fq0b, fm1, fm0, fs1, fs0, fr1, fr0, ff1, ff2, ff3, d27, g104, g104'] <;> omega
          · have g104' := g104; first | simp only [dT, dF] at g104' | try simp at g104'
            have hql : q < 4294967296 := by simp at g104; omega
            obtain ⟨pq, hpq⟩ : ∃ p, q * n0 = p := ⟨_, rfl⟩
            have hpl : pq < 18446744073709551616 := by
              have : q * n0 ≤ 4294967296 * n0 := Nat.mul_le_mul_right _ (by omega)
              omega
            have em1 := mulU hpq hpl
            have em2 : IntKind.u64.wrap (4294967296 * (r : Int)) = 4294967296 * (r : Int) := wrapU (by omega) (by omega)
            have em3 : IntKind.u64.wrap (4294967296 * (r : Int) + d0) = 4294967296 * (r : Int) + d0 := wrapU (by omega) (by omega)
            have hqf : ¬ 4294967296 ≤ q := by omega
            have em6 : (4294967296 * (r : Int) + (d0 : Int) < (pq : Int)) = (4294967296 * r + d0 < pq) := propext ⟨fun h => by omega, fun h => by omega⟩
            refine WpO.run tabOk 9 (by simp -implicitDefEqProofs [hz1, hz2, hn10, hsw, sh1, sh2, sh3, sh4, sh5, sw64, mk1, mk2, mk3, mk4, fq1, fq0, fq1b, fq0b, fm1, fm0, fs1, fs0, fr1, fr0, ff1, ff2, ff3, d27, g104, hpq, em1, em2, em3, em6, hqf] <;> first | exact ⟨rfl, rfl⟩ | rfl) ?_
            refine WpO.nil ?_
            refine ⟨rfl, Gh.only 113 13 ?_ (by first | rfl | simp -implicitDefEqProofs [hz1, hz2, hn10, hsw, sh1, sh2, sh3, sh4, sh5, sw64, mk1, mk2, mk3, mk4, fq1, fq0, fq1b, fq0b, fm1, fm0, fs1, fs0, fr1, fr0, ff1, ff2, ff3, d27, g104, hpq, em1, em2, em3, em6, hqf]) (by rfl)⟩
            simp -implicitDefEqProofs [hz1, hz2, hn10, hsw, sh1, sh2, sh3, sh4, sh5, sw64, mk1, mk2, mk3, mk4, fq1, fq0, fq1b, fq0b, fm1, fm0, fs1, fs0, fr1, fr0, ff1, ff2, ff3, d27, g104, hpq, em1, em2, em3, em6, hqf, g104'] <;> omega
        refine WpC.condD (4294967296 ≤ q ∨ 4294967296 * r + d0 < q * n0) (by simp -implicitDefEqProofs [hz1, hz2, hn10, hsw, sh1, sh2, sh3, sh4, sh5, sw64, mk1, mk2, mk3, mk4, fq1, fq0, fq1b, fq0b, fm1, fm0, fs1, fs0, fr1, fr0, ff1, ff2, ff3, d27]) (fun d113 => ?_) (fun d113 => ?_)
        · obtain ⟨hq0, hdg⟩ := dg_dec hr1' hd0hi hQ0 hi d113
          obtain ⟨q', hq'⟩ : ∃ p, q - 1 = p := ⟨_, rfl⟩
          obtain ⟨r', hr'⟩ : ∃ p, r + n1 = p := ⟨_, rfl⟩
          rw [hq', hr'] at hdg
          have em4 : IntKind.u64.wrap ((q : Int) - 1) = (q' : Int) := by rw [wrapU (by omega) (by omega)]; omega
          have em5 : IntKind.u64.wrap ((r : Int) + n1) = (r' : Int) := by rw [wrapU (by omega) (by omega)]; omega
          refine WpC.skip ?_
          refine WpC.block ?_
          refine WpC.seq (WpC.ops tabOk (r := []) (by simp -implicitDefEqProofs [hz1, hz2, hn10, hsw, sh1, sh2, sh3, sh4, sh5, sw64, mk1, mk2, mk3, mk4, fq1, fq0, fq1b, fq0b, fm1, fm0, fs1, fs0, fr1, fr0, ff1, ff2, ff3, d27, d113, em4, em5] <;> rfl) rfl ?_)
          refine WpC.seq (WpC.ops tabOk (r := []) (by simp -implicitDefEqProofs [hz1, hz2, hn10, hsw, sh1, sh2, sh3, sh4, sh5, sw64, mk1, mk2, mk3, mk4, fq1, fq0, fq1b, fq0b, fm1, fm0, fs1, fs0, fr1, fr0, ff1, ff2, ff3, d27, d113, em4, em5] <;> rfl) rfl ?_)
          refine WpC.seq (WpC.ops tabOk (r := []) (by simp -implicitDefEqProofs [hz1, hz2, hn10, hsw, sh1, sh2, sh3, sh4, sh5, sw64, mk1, mk2, mk3, mk4, fq1, fq0, fq1b, fq0b, fm1, fm0, fs1, fs0, fr1, fr0, ff1, ff2, ff3, d27, d113, em4, em5] <;> rfl) rfl ?_)
          refine WpC.condR (by simp -implicitDefEqProofs [hz1, hz2, hn10, hsw, sh1, sh2, sh3, sh4, sh5, sw64, mk1, mk2, mk3, mk4, fq1, fq0, fq1b, fq0b, fm1, fm0, fs1, fs0, fr1, fr0, ff1, ff2, ff3, d27, d113, em4, em5] <;> rfl) (by rfl) (fun c120 => ?_) (fun c120 => ?_)
          · have c120' := c120; first | simp only [dT, dF] at c120' | try simp at c120'
            refine WpC.exit ?_
            first
            | (have hqq : q = Q0 := dg_end hr1' hQ0 hi (by omega); subst hqq)
            | (have hqq : q' = Q0 := dg_far hr1' hn0hi hQ0 hdg (by simp at c120; omega); subst hqq)
            exact ⟨rfl, Gh.cut' [2, 8, 14, 15, 17, 18] 0 (by simp -implicitDefEqProofs [hz1, hz2, hn10, hsw, sh1, sh2, sh3, sh4, sh5, sw64, mk1, mk2, mk3, mk4, fq1, fq0, fq1b, fq0b, fm1, fm0, fs1, fs0, fr1, fr0, ff1, ff2, ff3, d27, d113, em4, em5, c120, c120']) (by simp -implicitDefEqProofs [hz1, hz2, hn10, hsw, sh1, sh2, sh3, sh4, sh5, sw64, mk1, mk2, mk3, mk4, fq1, fq0, fq1b, fq0b, fm1, fm0, fs1, fs0, fr1, fr0, ff1, ff2, ff3, d27, d113, em4, em5, c120, c120']) rfl (by simp) (by simp) (by simp)⟩
          · have c120' := c120; first | simp only [dT, dF] at c120' | try simp at c120'
            refine WpC.skip ?_
            exact ⟨(q', r'), ⟨hdg, by simp at c120; show r' < _; omega⟩, by show q' < q; omega, Gh.cut' [16, 18, 2, 8, 9, 10, 14, 15, 17] 0 (by simp -implicitDefEqProofs [hz1, hz2, hn10, hsw, sh1, sh2, sh3, sh4, sh5, sw64, mk1, mk2, mk3, mk4, fq1, fq0, fq1b, fq0b, fm1, fm0, fs1, fs0, fr1, fr0, ff1, ff2, ff3, d27, d113, em4, em5, c120, c120']) (by simp) rfl (by simp) (by simp) (by simp)⟩
        · refine WpC.exit ?_
          first
          | (have hqq : q = Q0 := dg_end hr1' hQ0 hi (by omega); subst hqq)
          | (have hqq : q' = Q0 := dg_far hr1' hn0hi hQ0 hdg (by simp at c120; omega); subst hqq)
          exact ⟨rfl, Gh.cut' [2, 8, 14, 15, 17, 18] 0 (by simp -implicitDefEqProofs [hz1, hz2, hn10, hsw, sh1, sh2, sh3, sh4, sh5, sw64, mk1, mk2, mk3, mk4, fq1, fq0, fq1b, fq0b, fm1, fm0, fs1, fs0, fr1, fr0, ff1, ff2, ff3, d27, d113]) (by simp -implicitDefEqProofs [hz1, hz2, hn10, hsw, sh1, sh2, sh3, sh4, sh5, sw64, mk1, mk2, mk3, mk4, fq1, fq0, fq1b, fq0b, fm1, fm0, fs1, fs0, fr1, fr0, ff1, ff2, ff3, d27, d113]) rfl (by simp) (by simp) (by simp)⟩
      · refine WpC.seq (WpC.ops tabOk (r := []) (by simp -implicitDefEqProofs [hz1, hz2, hn10, hsw, sh1, sh2, sh3, sh4, sh5, sw64, mk1, mk2, mk3, mk4, fq1, fq0, fq1b, fq0b, fm1, fm0, fs1, fs0, fr1, fr0, ff1, ff2, ff3, d27] <;> rfl) rfl ?_)
        refine WpC.ret ?_
        try simp only [blockQ, seqQ]
        refine retD_i (by simp -implicitDefEqProofs [hz1, hz2, hn10, hsw, sh1, sh2, sh3, sh4, sh5, sw64, mk1, mk2, mk3, mk4, fq1, fq0, fq1b, fq0b, fm1, fm0, fs1, fs0, fr1, fr0, ff1, ff2, ff3, d27] <;> rfl) (by simp -implicitDefEqProofs [hz1, hz2, hn10, hsw, sh1, sh2, sh3, sh4, sh5, sw64, mk1, mk2, mk3, mk4, fq1, fq0, fq1b, fq0b, fm1, fm0, fs1, fs0, fr1, fr0, ff1, ff2, ff3, d27] <;> rfl) ?_
        simp -implicitDefEqProofs [hz1, hz2, hn10, hsw, sh1, sh2, sh3, sh4, sh5, sw64, mk1, mk2, mk3, mk4, fq1, fq0, fq1b, fq0b, fm1, fm0, fs1, fs0, fr1, fr0, ff1, ff2, ff3, d27]
end Go.Proofs.Ytaobnhenjldjeaa.Pay
