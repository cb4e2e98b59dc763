/- Operations that turn no memory: loads, addresses, cuts, conversions, the small builtins. No statement of the seed is proved here. -/
import Derived.Test.YtjlamhilnkadcaaGreatDoorMpA
namespace Go.Proofs.YtjlamhilnkadcaaGreatDoor.Pay
open Go Go.RowKit
set_option linter.unusedVariables false
set_option linter.unusedSimpArgs false

def mkV (cs : List FV) : FV := match allD cs with
  | some ds => .d (.agg ds)
  | none => .agg cs

def elemAt (S : List Ob) (id k i : Nat) : Option D := match S[id]? with
  | some (.arr _ k' xs) => if k' = k then xs[i]? else none
  | some (.frz k' xs) => if k' = k then xs[i]? else none
  | _ => none

def ldD (i : TI) (cs : List D) : Option D := if i.ag = true then (if i.size ≤ cs.length then some (.agg (cs.take i.size)) else none) else cs[0]?

def evLd (T : Nat → Option TI) (s : St) (t : TypeId) (p : FV) : Option FV :=
  (T t).bind fun i => match p with
  | .ref id off => match s.S[id]? with
    | some (.cells _ cs) => if i.ag = true then (if off + i.size ≤ cs.length then some (mkV ((cs.drop off).take i.size)) else none) else cs[off]?
    | _ => none
  | .er id k j off => (elemAt s.S id k j).bind fun x => (ldD i (x.cs.drop off)).map .d
  | .dp cs => (ldD i cs).map .d
  | _ => none

def evFA (T : Nat → Option TI) (t : TypeId) (p : FV) (f : Nat) : Option FV :=
  (T t).bind fun i => match i.kind with
  | .struct fs => (fs[f]?).bind fun o => (T o.2).bind fun fi => if fi.size = 0 then none else (match p with
    | .ref id off => some (.ref id (off + o.1))
    | .er id k j off => some (.er id k j (off + o.1))
    | .dp cs => some (.dp (cs.drop o.1))
    | _ => none)
  | _ => none

def partV (i : TI) (off : Nat) (cs : List FV) : Option FV := if i.ag = true then (if off + i.size ≤ cs.length then some (mkV ((cs.drop off).take i.size)) else none) else cs[off]?

def cellsV : FV → Option (List FV)
  | .d (.agg cs) => some (cs.map .d)
  | .agg cs => some cs
  | _ => none

def evField (T : Nat → Option TI) (t : TypeId) (x : FV) (f : Nat) : Option FV :=
  (T t).bind fun i => match i.kind with
  | .struct fs => (fs[f]?).bind fun o => (T o.2).bind fun fi => (cellsV x).bind (partV fi o.1)
  | _ => none

def evIA (T : Nat → Option TI) (s : St) (t : TypeId) (x : FV) (ix : FV) : Option FV :=
  match ix with
  | .d (.int _ j) => (T t).bind fun i => match i.kind with
    | .slice e => (T e).bind fun ei => (match x with
      | .sl id n => match s.S[id]? with
        | some (.arr _ k xs) => if k = ei.size ∧ n ≤ xs.length ∧ 0 ≤ j ∧ j < n then some (.er id k j.toNat 0) else none
        | some (.frz k xs) => if k = ei.size ∧ n ≤ xs.length ∧ 0 ≤ j ∧ j < n then some (.er id k j.toNat 0) else none
        | _ => none
      | .d (.list k xs) => if k = ei.size ∧ 0 ≤ j ∧ j < xs.length then (xs[j.toNat]?).map fun x => .dp x.cs else none
      | .so id k' off n => match s.S[id]? with
        | some (.arr _ k xs) => if k = ei.size ∧ k' = k ∧ off + n ≤ xs.length ∧ 0 ≤ j ∧ j < n then some (.er id k (off + j.toNat) 0) else none
        | _ => none
      | _ => none)
    | .array n e => (T e).bind fun ei => (match x with
      | .ref id off => if 0 ≤ j ∧ j < n then some (.ref id (off + j.toNat * ei.size)) else none
      | _ => none)
    | _ => none
  | _ => none

def evIx (T : Nat → Option TI) (t : TypeId) (x : FV) (ix : FV) : Option FV :=
  match ix with
  | .d (.int _ j) => (T t).bind fun i => match i.kind with
    | .str => (match x with
      | .d (.str s) => if 0 ≤ j then (s[j.toNat]?).map fun b => .d (.int .u8 b.toNat) else none
      | _ => none)
    | .array n e => (T e).bind fun ei => if 0 ≤ j ∧ j < n then (cellsV x).bind (partV ei (j.toNat * ei.size)) else none
    | _ => none
  | _ => none

def bnd (dflt : Nat) : Option FV → Option Nat
  | none => some dflt
  | some (.d (.int _ n)) => if 0 ≤ n then some n.toNat else none
  | _ => none

def evSl (T : Nat → Option TI) (s : St) (t : TypeId) (x : FV) (lo hi : Option FV) : Option FV :=
  (T t).bind fun i => match i.kind, x with
  | .str, .d (.str l) => (bnd 0 lo).bind fun a => (bnd l.length hi).bind fun b => if a ≤ b ∧ b ≤ l.length then some (.d (.str ((l.drop a).take (b - a)))) else none
  | .slice e, .d (.list k xs) => (T e).bind fun ei => if k = ei.size then (bnd 0 lo).bind fun a => (bnd xs.length hi).bind fun b => if a ≤ b ∧ b ≤ xs.length then some (.d (.list k ((xs.drop a).take (b - a)))) else none else none
  | .slice e, .sl id n => (T e).bind fun ei => (bnd 0 lo).bind fun a => (bnd n hi).bind fun b => match s.S[id]? with
    | some (.arr _ k xs) => if a ≤ b ∧ b ≤ n ∧ n ≤ xs.length then (match lo with
      | none => some (.sl id b)
      | some _ => if k = ei.size then some (.so id k a (b - a)) else none) else none
    | _ => none
  | .slice e, .sc id n c => (T e).bind fun ei => (bnd 0 lo).bind fun a => (bnd n hi).bind fun b => match s.S[id]? with
    | some (.arr _ k _) => if a ≤ b ∧ b ≤ c then (match lo with
      | none => some (.sc id b c)
      | some _ => if k = ei.size then some (.so id k a (b - a)) else none) else none
    | _ => none
  | _, _ => none

def u8s : List D → Option (List UInt8)
  | [] => some []
  | .int .u8 n :: r => (u8s r).map (UInt8.ofNat n.toNat :: ·)
  | _ :: _ => none

def evCv (T : Nat → Option TI) (s : St) (src dst : TypeId) (x : FV) : Option FV :=
  (T src).bind fun i => (T dst).bind fun j => match j.kind, x with
  | .int k, .d (.int _ n) => some (.d (.int k (k.wrap n)))
  | .flt k, .d (.int _ n) => some (.d (.flt k (k.nearest n)))
  | .int k, .d (.flt f b) => (match (f.decode b).toInt .zero with
    | some n => if k.min ≤ n ∧ n ≤ k.max then some (.d (.int k n)) else none
    | none => none)
  | .str, .d (.str l) => (match i.kind with | .str => some (.d (.str l)) | _ => none)
  | .str, .d (.list k xs) => (match i.kind with
    | .slice e => (match T e with
      | some ⟨.int .u8, _, _, _⟩ => if k = 1 then (u8s xs).map fun l => .d (.str l) else none
      | _ => none)
    | _ => none)
  | .str, .sl id n => (match i.kind with
    | .slice e => (match T e with
      | some ⟨.int .u8, _, _, _⟩ => (match s.S[id]? with
        | some (.arr _ k xs) => if k = 1 ∧ n = xs.length then (u8s xs).map fun l => .d (.str l) else none
        | _ => none)
      | _ => none)
    | _ => none)
  | _, _ => none

def evUn (op : UnOp) (x : FV) : Option FV :=
  match op, x with
  | .neg, .d (.int k n) => some (.d (.int k (k.wrap (0 - n))))
  | .not, .d (.bool b) => some (.d (.bool !b))
  | _, _ => none

def lenV (s : St) : FV → Option Nat
  | .d (.str l) => some l.length
  | .d (.list _ xs) => some xs.length
  | .d .nil => some 0
  | .sl _ n => some n
  | .so _ _ _ n => some n
  | .d .nilm => some 0
  | .d (.map ks _) => some ks.length
  | .mp id => match s.S[id]? with
    | some (.map ks _) => some ks.length
    | some (.fmap ks _) => some ks.length
    | _ => none
  | _ => none

def mxI (k : IntKind) (x : Int) : List FV → Option Int
  | [] => some x
  | .d (.int k' y) :: r => if k' = k then mxI k (max x y) r else none
  | _ :: _ => none
def mnI (k : IntKind) (x : Int) : List FV → Option Int
  | [] => some x
  | .d (.int k' y) :: r => if k' = k then mnI k (min x y) r else none
  | _ :: _ => none

def evBu (T : Nat → Option TI) (s : St) (b : Builtin) (ts : Array TypeId) (args : List FV) : Option FV :=
  match b, args with
  | .len, [x] => (ts[0]?).bind fun t => (T t).bind fun i => (match i.kind, x with
    | .str, .d (.str _) => (lenV s x).map fun n => .d (.int .i64 n)
    | .slice _, .d (.list _ _) => (lenV s x).map fun n => .d (.int .i64 n)
    | .slice _, .d .nil => (lenV s x).map fun n => .d (.int .i64 n)
    | .slice _, .sl _ _ => (lenV s x).map fun n => .d (.int .i64 n)
    | .slice _, .so _ _ _ _ => (lenV s x).map fun n => .d (.int .i64 n)
    | .array n _, _ => some (.d (.int .i64 n))
    | _, _ => none)
  | .cap, [.sc _ _ c] => (ts[0]?).bind fun t => (T t).bind fun i => (match i.kind with
    | .slice _ => some (.d (.int .i64 c))
    | _ => none)
  | .max, .d (.int k x) :: r => (mxI k x r).map fun n => .d (.int k n)
  | .min, .d (.int k x) :: r => (mnI k x r).map fun n => .d (.int k n)
  | .real, [.d (.cpx k a _)] => some (.d (.flt k a))
  | .imag, [.d (.cpx k _ b)] => some (.d (.flt k b))
  | .complex, [.d (.flt k a), .d (.flt k' b)] => if k = k' then some (.d (.cpx k a b)) else none
  | _, _ => none

def evXs (s : St) : List Operand → Option (List FV)
  | [] => some []
  | x :: r => (evX s x).bind fun v => (evXs s r).map (v :: ·)

def evOpt (s : St) : Option Operand → Option (Option FV)
  | none => some none
  | some x => (evX s x).map some

/-- What an operation that turns no memory gives. -/
def evA (T : Nat → Option TI) (s : St) : Op → Option FV
  | .move x | .assign x => evX s x
  | .pick c a b => (evX s c).bind fun c => (evX s a).bind fun a => (evX s b).bind fun b => (match c, a, b with
    | .d (.bool t), .d x, .d y => some (.d (if t = true then x else y))
    | .d (.bool t), .d x, .tup [] => if t = true then some (.d x) else none
    | .d (.bool t), .tup [], .d y => if t = true then none else some (.d y)
    | _, _, _ => none)
  | .nilCheck x => (evX s x).bind fun v => (match v with
    | .ref _ _ => some v
    | .er _ _ _ _ => some v
    | .dp _ => some v
    | .fn _ _ => some v
    | _ => none)
  | .binOp op t x y _ => (evX s x).bind fun vx => (evX s y).bind fun vy => (match vx, vy with
    | .d .nili, .d .nili => (match x, y with
      | .const _, _ => evBin T op t vx vy
      | _, .const _ => evBin T op t vx vy
      | _, _ => none)
    | _, _ => evBin T op t vx vy).map .d
  | .unOp op _ x => (evX s x).bind (evUn op)
  | .convert src dst x => (evX s x).bind (evCv T s src dst)
  | .makeFunc (.func f) first caps => if first.size = 0 then (evXs s caps.toList).map (.fn f) else none
  | .makeInterface t x => (evX s x).bind fun _ => (T t).bind fun i => (match i.kind with
    | .iface => none
    | _ => some (.d .any))
  | .load t p => (evX s p).bind (evLd T s t)
  | .fieldAddr t p f => (evX s p).bind fun v => evFA T t v f
  | .field t x f => (evX s x).bind fun v => evField T t v f
  | .indexAddr t x i => (evX s x).bind fun v => (evX s i).bind fun j => evIA T s t v j
  | .index t x i => (evX s x).bind fun v => (evX s i).bind fun j => evIx T t v j
  | .slice t x lo hi none => (evX s x).bind fun v => (evOpt s lo).bind fun l => (evOpt s hi).bind fun h => evSl T s t v l h
  | .extract x i => (evX s x).bind fun v => (match v with
    | .tup vs => vs[i]?
    | _ => none)
  | .lookup t x k ok => (evX s x).bind fun v => (evX s k).bind fun j => evLk T s t v j ok
  | .call { callee := .builtin b, args, argTypes } => (evXs s args.toList).bind (evBu T s b argTypes)
  | _ => none

section
variable {P : Program} {T : Nat → Option TI} {w : World} {I : Nat → Prop} {L : List Lay} {s : St} {a : Act}

theorem mkV_ok {cs : List FV} {vs : List Value} (h : VRelL w I L cs vs) (ho : Ones vs) : VRel w I L (mkV cs) (.agg vs.toArray) := by
  unfold mkV
  split
  · rename_i ds hd
    simp only [VRel, DRel]
    exact ⟨vs, rfl, ho, h.allD hd⟩
  · simp only [VRel]; exact ⟨vs, rfl, ho, h⟩

theorem Ones.drop {vs : List Value} (h : Ones vs) (n : Nat) : Ones (vs.drop n) := fun v hv => h v (List.mem_of_mem_drop hv)
theorem Ones.take {vs : List Value} (h : Ones vs) (n : Nat) : Ones (vs.take n) := fun v hv => h v (List.mem_of_mem_take hv)

theorem cellsAt_drop {b o : Nat} {vs : List Value} (h : CellsAt w b o vs) (n : Nat) : CellsAt w b (o + n) (vs.drop n) := fun j v hv => by
  have := h (n + j) v (by simpa using hv)
  rwa [← Nat.add_assoc] at this
theorem cellsAt_take {b o : Nat} {vs : List Value} (h : CellsAt w b o vs) (n : Nat) : CellsAt w b o (vs.take n) := fun j v hv => by
  rw [List.getElem?_take] at hv
  split at hv
  · exact h j v hv
  · cases hv

theorem cellsAt_block {b : Nat} {vs : List Value} {t : TypeId} {fr : Nat × Nat} (h : w.heap[b]? = some (.cells vs.toArray t fr)) : CellsAt w b 0 vs := fun j v hv => by
  simp [World.cell?, h, hv]

/-- A variable of a type is loaded from cells. -/
theorem run_loadVar_cells {t : TypeId} {i : TI} (hi : TIOk P t i) {b o : Nat} {vs : List Value} (hc : CellsAt w b o vs) (hle : i.ag = true → i.size ≤ vs.length) (h1 : i.ag = false → 0 < vs.length) :
    (loadVar t ⟨b, o, none⟩).run P w = .ok (if i.ag = true then .agg (vs.take i.size).toArray else vs.headD undef) w := by
  unfold loadVar
  simp only [Sem.run_bind, hi.isAgg, Result.andThen_ok]
  cases hag : i.ag with
  | true =>
    have hl : (vs.take i.size).length = i.size := by rw [List.length_take]; have := hle hag; omega
    have hr := run_loadCells_list (P := P) w ⟨b, o, none⟩ (vs.take i.size) (fun j v hv => by
      have := cellsAt_take hc i.size j v hv
      simpa [Addr.add_lit] using this)
    rw [hl] at hr
    simp [hi.sizeOf, hr]
  | false =>
    cases vs with
    | nil => have := h1 hag; simp at this
    | cons v r =>
      have h0 := hc 0 v rfl
      simp only [Nat.add_zero] at h0
      simp [h0]

theorem ldD_ok {t : TypeId} {i : TI} (hi : TIOk P t i) {b o : Nat} {vs : List Value} {cs : List D} {x : D} (hc : CellsAt w b o vs) (ho : Ones vs) (hr : DRelL w I cs vs) (h : ldD i cs = some x) :
    ∃ v, (∀ w' : World, CellsAt w' b o vs → (loadVar t ⟨b, o, none⟩).run P w' = .ok v w') ∧ DRel w I x v := by
  unfold ldD at h
  cases hag : i.ag with
  | true =>
    simp only [hag, if_true] at h
    split at h
    · rename_i hl
      cases h
      refine ⟨_, fun w' hc' => run_loadVar_cells hi hc' (fun _ => by rw [hr.length]; exact hl) (fun h => by rw [hag] at h; cases h), ?_⟩
      simp only [hag, if_true, DRel]
      exact ⟨_, rfl, ho.take _, hr.take _⟩
    · cases h
  | false =>
    simp only [hag, Bool.false_eq_true, if_false] at h
    obtain ⟨v, hv, hx⟩ := hr.get 0 x h
    refine ⟨v, fun w' hc' => ?_, hx⟩
    rw [run_loadVar_cells hi hc' (fun h => by rw [hag] at h; cases h) (fun _ => by cases vs <;> simp_all)]
    simp only [hag, Bool.false_eq_true, if_false]
    cases vs <;> simp_all

/-- The cells of an own array's element. -/
theorem ownsRow_cells {e : TypeId} {k n cap : Nat} {base : Option Nat} {vs : List Value} (h : w.ownsRow 0 e k (.slice (Lay.head base) n cap) n vs) (hn : 0 < vs.length) :
    ∃ b, base = some b ∧ CellsAt w b 0 vs := by
  rcases h.2 with ⟨_, rfl⟩ | ⟨g, cp, cur, he, _, hg, _, _, _, ht⟩
  · have := h.1
    simp at this
    subst this
    simp at hn
  · cases base with
    | none => simp [Lay.head] at he
    | some b =>
      simp [Lay.head] at he
      obtain ⟨rfl, rfl⟩ := he
      refine ⟨b, rfl, fun j v hv => ?_⟩
      have := h.cells (g := b) rfl j v hv
      simpa [Addr.add_lit] using this

theorem elem_cells {k i : Nat} {xs : List D} {vs : List Value} {b o : Nat} {x : D} (hr : DRelR w I k xs vs) (hc : CellsAt w b o vs) (hx : xs[i]? = some x) :
    ∃ v, DRel w I x v ∧ v.cells.size = k ∧ CellsAt w b (o + i * k) v.cells.toList := by
  obtain ⟨v, hv, hk, hd⟩ := hr.get i x hx
  exact ⟨v, hv, hk, hd ▸ cellsAt_take (cellsAt_drop hc (i * k)) k⟩

theorem owns_mem : ∀ {S : List Ob} {L : List Lay} {i : Nat} {o : Ob} {l : Lay}, S[i]? = some o → L[i]? = some l → ∀ b ∈ own o l, b ∈ owns S L
  | [], _, i, o, l, h, _ => by simp at h
  | x :: S, [], i, o, l, _, h => by simp at h
  | x :: S, y :: L, i, o, l, h1, h2 => by
    intro b hb
    cases i with
    | zero => simp at h1 h2; subst h1; subst h2; simp [owns, hb]
    | succ i => simp only [owns, List.mem_append]; exact .inr (owns_mem (by simpa using h1) (by simpa using h2) b hb)

/-- Two worlds agree on what a state knows. -/
def Agree (w w' : World) (I : Nat → Prop) (A : List Nat) : Prop := ∀ b, (I b ∨ b ∈ A) → w'.heap[b]? = w.heap[b]?

theorem elemAt_ok (hs : SR w I L s a) {id k i : Nat} {x : D} (h : elemAt s.S id k i = some x) {b cap : Nat} (hl : L[id]? = some (.a (some b) cap)) :
    ∃ v, DRel w I x v ∧ v.cells.size = k ∧ CellsAt w b (i * k) v.cells.toList ∧ (v.cells.toList = [] ∨ I b ∨ b ∈ owns s.S L) := by
  unfold elemAt at h
  split at h
  · rename_i e k' xs hS
    split at h
    · rename_i hk; subst hk
      rcases hs.obs _ _ _ hS hl with ⟨base, cp, vs, he, hown, hr⟩ | ⟨hd, he, _⟩
      rotate_left
      · cases he
      cases he
      have hlen : i < xs.length := (List.getElem?_eq_some_iff.1 h).1
      obtain ⟨v, hv, hk, hd⟩ := hr.get i x h
      by_cases h0 : 0 < vs.length
      · obtain ⟨b', hb, hc⟩ := ownsRow_cells hown h0
        cases hb
        obtain ⟨v, h1, h2, h3⟩ := elem_cells hr hc h
        exact ⟨v, h1, h2, by simpa using h3, .inr (.inr (owns_mem hS hl b (by simp [own])))⟩
      · have : vs = [] := List.eq_nil_of_length_eq_zero (by omega)
        subst this
        have he : v.cells.toList = [] := by rw [← hd]; simp
        refine ⟨v, hv, hk, ?_, .inl he⟩
        rw [he]
        intro j u hu; simp at hu
    · cases h
  · rename_i k' xs hS
    split at h
    · rename_i hk; subst hk
      obtain ⟨base, cp, he, hd⟩ := hs.obs _ _ _ hS hl
      simp only [Lay.hdr, Option.some.injEq, Prod.mk.injEq] at he
      obtain ⟨rfl, rfl⟩ := he
      simp only [DRel] at hd
      obtain ⟨base, c, hv, _, hd⟩ := hd
      rcases hd with hd | ⟨b', o, vs, hb, hIb, hc, hr⟩
      · subst hd; simp at h
      · simp [Lay.head] at hv
        obtain ⟨rfl, rfl⟩ := hv
        simp at hb
        obtain ⟨rfl, rfl⟩ := hb
        obtain ⟨v, h1, h2, h3⟩ := elem_cells hr hc h
        exact ⟨v, h1, h2, by simpa using h3, .inr (.inl hIb)⟩
    · cases h
  · cases h

theorem evLd_ok (hT : TabOk P T) (hs : SR w I L s a) {t : TypeId} {p : FV} {vp : Value} {z : FV} (hp : VRel w I L p vp) (h : evLd T s t p = some z) :
    ∃ v, (∀ w' : World, Agree w w' I (owns s.S L) → (Instr.loadAt t vp).run P w' = .ok v w') ∧ VRel w I L z v := by
  unfold evLd at h
  simp only [Option.bind_eq_some_iff] at h
  obtain ⟨i, hi, h⟩ := h
  have hI := hT _ _ hi
  split at h
  · rename_i id off
    simp only [VRel] at hp
    obtain ⟨b, hl, rfl⟩ := hp
    split at h
    · rename_i tt cs hS
      obtain ⟨b', vs, he, hb, ho, hr⟩ := hs.obs _ _ _ hS hl
      cases he
      have hc := cellsAt_drop (cellsAt_block hb) off
      simp only [Nat.zero_add] at hc
      have hc' : ∀ w' : World, Agree w w' I (owns s.S L) → CellsAt w' b off (vs.drop off) := fun w' hg => cellsAt_of_block (hg b (.inr (owns_mem hS hl b (by simp [own])))) hc
      cases hag : i.ag with
      | true =>
        simp only [hag, if_true] at h
        split at h
        · rename_i hle
          cases h
          refine ⟨_, fun w' hg => by simp only [Instr.loadAt, Instr.sureAddr, Sem.run_bind, Sem.run_pure, Result.andThen_ok]; exact run_loadVar_cells hI (hc' w' hg) (fun _ => by rw [List.length_drop, hr.length]; omega) (fun h => by rw [hag] at h; cases h), ?_⟩
          simp only [hag, if_true]
          exact mkV_ok ((hr.drop off).take _) ((ho.drop _).take _)
        · cases h
      | false =>
        simp only [hag, Bool.false_eq_true, if_false] at h
        obtain ⟨v, hv, hx⟩ := hr.get off z h
        refine ⟨v, fun w' hg => ?_, hx⟩
        simp only [Instr.loadAt, Instr.sureAddr, Sem.run_bind, Sem.run_pure, Result.andThen_ok]
        have hd : vs.drop off = v :: vs.drop (off + 1) := by
          have hlt := (List.getElem?_eq_some_iff.1 hv).1
          rw [List.drop_eq_getElem_cons hlt, (List.getElem?_eq_some_iff.1 hv).2]
        rw [run_loadVar_cells hI (hc' w' hg) (fun h => by rw [hag] at h; cases h) (fun _ => by rw [hd]; simp)]
        simp only [hag, Bool.false_eq_true, if_false, hd, List.headD_cons]
    · cases h
  · rename_i id k j off
    simp only [VRel] at hp
    obtain ⟨b, cap, hl, rfl⟩ := hp
    simp only [Option.bind_eq_some_iff, Option.map_eq_some_iff] at h
    obtain ⟨x, hx, y, hy, rfl⟩ := h
    obtain ⟨v, hv, hk, hc, hIo⟩ := elemAt_ok hs hx hl
    obtain ⟨u, hu, hz⟩ := ldD_ok hI (cellsAt_drop hc off) (hv.ones.drop off) (hv.cells.drop off) hy
    refine ⟨u, fun w' hg => ?_, by simpa only [VRel] using hz⟩
    simp only [Instr.loadAt, Instr.sureAddr, Sem.run_bind, Sem.run_pure, Result.andThen_ok]
    refine hu w' (cellsAt_drop ?_ off)
    rcases hIo with h0 | h0
    · rw [h0]; intro q v hv; simp at hv
    · exact cellsAt_of_block (hg b h0) hc
  · simp only [VRel] at hp
    obtain ⟨b, o, vs, rfl, hIb, hc, ho, hr⟩ := hp
    simp only [Option.map_eq_some_iff] at h
    obtain ⟨y, hy, rfl⟩ := h
    obtain ⟨u, hu, hz⟩ := ldD_ok hI hc ho hr hy
    exact ⟨u, fun w' hg => by simpa only [Instr.loadAt, Instr.sureAddr, Sem.run_bind, Sem.run_pure, Result.andThen_ok] using hu w' (cellsAt_of_block (hg b (.inl hIb)) hc), by simpa only [VRel] using hz⟩
  · cases h

theorem field_of {t : TypeId} {fs : List (Nat × Nat)} {f : Nat} {o : Nat × Nat} (hk : TKOk P t (.struct fs)) (hf : fs[f]? = some o) :
    ∃ (d : Array Field) (fl : Field), P.underlying t = some (.struct d) ∧ d[f]? = some fl ∧ fl.offset = o.1 ∧ fl.type = o.2 := by
  obtain ⟨d, hd, he⟩ := hk
  rw [← he, List.getElem?_map, Option.map_eq_some_iff] at hf
  obtain ⟨fl, hfl, rfl⟩ := hf
  exact ⟨d, fl, hd, by simpa using hfl, rfl, rfl⟩

theorem evFA_ok (hT : TabOk P T) {t : TypeId} {p : FV} {f : Nat} {vp : Value} {z : FV} (hp : VRel w I L p vp) (h : evFA T t p f = some z) :
    ∃ v, (∀ w' : World, (Instr.fieldAt t vp f).run P w' = .ok v w') ∧ VRel w I L z v := by
  unfold evFA at h
  simp only [Option.bind_eq_some_iff] at h
  obtain ⟨i, hi, h⟩ := h
  have hI := (hT _ _ hi).kind
  split at h
  · rename_i fs hkd
    rw [hkd] at hI
    simp only [Option.bind_eq_some_iff] at h
    obtain ⟨o, ho, fi, hfi, h⟩ := h
    obtain ⟨d, fl, hd, hfl, e1, e2⟩ := field_of hI ho
    have hsz : ∀ w' : World, (sizeOf fl.type).run P w' = .ok fi.size w' := fun w' => by rw [e2]; exact (hT _ _ hfi).sizeOf
    split at h
    · cases h
    · rename_i hne
      split at h
      all_goals first | (cases h; done) | skip
      · cases h
        simp only [VRel] at hp ⊢
        obtain ⟨b, hl, rfl⟩ := hp
        exact ⟨_, fun w' => by simp [Instr.fieldAt, runU hd, hfl, Instr.sureAddr, fieldPlace, hsz, hne, Addr.add_lit, e1] <;> rfl, b, hl, rfl⟩
      · cases h
        simp only [VRel] at hp ⊢
        obtain ⟨b, cap, hl, rfl⟩ := hp
        exact ⟨_, fun w' => by simp [Instr.fieldAt, runU hd, hfl, Instr.sureAddr, fieldPlace, hsz, hne, Addr.add_lit, e1] <;> rfl, b, cap, hl, by rw [Nat.add_assoc]⟩
      · cases h
        simp only [VRel] at hp ⊢
        obtain ⟨b, off, vs, rfl, hb, hc, h1, hr⟩ := hp
        exact ⟨_, fun w' => by simp [Instr.fieldAt, runU hd, hfl, Instr.sureAddr, fieldPlace, hsz, hne, Addr.add_lit, e1] <;> rfl, b, off + o.1, vs.drop o.1, rfl, hb, cellsAt_drop hc _, h1.drop _, hr.drop _⟩
  · cases h

theorem cellsV_ok {x : FV} {v : Value} {cs : List FV} (hx : VRel w I L x v) (h : cellsV x = some cs) : ∃ vs : List Value, v = .agg vs.toArray ∧ Ones vs ∧ VRelL w I L cs vs := by
  unfold cellsV at h
  split at h
  · cases h
    simp only [VRel, DRel] at hx
    obtain ⟨vs, rfl, ho, hr⟩ := hx
    exact ⟨vs, rfl, ho, hr.toV⟩
  · cases h
    simp only [VRel] at hx
    exact hx
  · cases h

theorem partV_ok {t : TypeId} {i : TI} (hi : TIOk P t i) {off : Nat} {cs : List FV} {vs : List Value} {z : FV} (ho : Ones vs) (hr : VRelL w I L cs vs) (h : partV i off cs = some z) :
    ∃ v, (∀ w' : World, (part t vs.toArray off).run P w' = .ok v w') ∧ VRel w I L z v := by
  unfold partV at h
  unfold part
  cases hag : i.ag with
  | true =>
    simp only [hag, if_true] at h
    split at h
    · cases h
      refine ⟨.agg ((vs.drop off).take i.size).toArray, fun w' => ?_, mkV_ok ((hr.drop off).take _) ((ho.drop _).take _)⟩
      simp only [Sem.run_bind, hi.isAgg, hag, Result.andThen_ok, if_true, hi.sizeOf, Sem.run_pure]
      congr 2
      apply Array.ext'
      simp
    · cases h
  | false =>
    simp only [hag, Bool.false_eq_true, if_false] at h
    obtain ⟨v, hv, hx⟩ := hr.get off z h
    exact ⟨v, fun w' => by simp [hv, hi.isAgg, hag], hx⟩

theorem evField_ok (hT : TabOk P T) {t : TypeId} {x : FV} {f : Nat} {vx : Value} {z : FV} (hx : VRel w I L x vx) (h : evField T t x f = some z) :
    ∃ v, (∀ w' : World, (Instr.field t vx f).run P w' = .ok v w') ∧ VRel w I L z v := by
  unfold evField at h
  simp only [Option.bind_eq_some_iff] at h
  obtain ⟨i, hi, h⟩ := h
  have hI := (hT _ _ hi).kind
  split at h
  · rename_i fs hkd
    rw [hkd] at hI
    simp only [Option.bind_eq_some_iff] at h
    obtain ⟨o, ho, fi, hfi, cs, hcs, h⟩ := h
    obtain ⟨d, fl, hd, hfl, e1, e2⟩ := field_of hI ho
    obtain ⟨vs, rfl, h1, hr⟩ := cellsV_ok hx hcs
    obtain ⟨v, hv, hz⟩ := partV_ok (hT _ _ hfi) h1 hr h
    exact ⟨v, fun w' => by simp [Instr.field, runU hd, hfl, asAgg, e1, e2, hv], hz⟩
  · cases h

theorem sl_cap (hs : SR w I L s a) {id k : Nat} {e : TypeId} {xs : List D} {l : Lay} {hd : Option Addr} {cap : Nat} (hS : s.S[id]? = some (.arr e k xs)) (hl : L[id]? = some l) (hh : l.hdr = some (hd, cap)) :
    xs.length ≤ cap ∧ (0 < xs.length → ∃ b, l = .a (some b) cap ∧ hd = some ⟨b, 0, none⟩) := by
  rcases hs.obs _ _ _ hS hl with ⟨base', cp, vs, he, hown, hr⟩ | ⟨hd, rfl, rfl⟩
  rotate_left
  · simp
  cases he
  simp only [Lay.hdr, Option.some.injEq, Prod.mk.injEq] at hh
  obtain ⟨rfl, rfl⟩ := hh
  rcases hown.2 with ⟨h1, h2⟩ | ⟨g, cp, cur, he, _, _, hle, _⟩
  · exact ⟨by omega, fun h => by omega⟩
  · cases base' with
    | none => simp [Lay.head] at he
    | some b =>
      simp [Lay.head] at he
      obtain ⟨rfl, rfl⟩ := he
      exact ⟨hle, fun _ => ⟨b, rfl, rfl⟩⟩

theorem frz_cap (hs : SR w I L s a) {id k : Nat} {xs : List D} {l : Lay} {hd : Option Addr} {cap : Nat} (hS : s.S[id]? = some (.frz k xs)) (hl : L[id]? = some l) (hh : l.hdr = some (hd, cap)) :
    xs.length ≤ cap ∧ (0 < xs.length → ∃ b, l = .a (some b) cap ∧ hd = some ⟨b, 0, none⟩) := by
  obtain ⟨hd', cp, he, hd⟩ := hs.obs _ _ _ hS hl
  rw [hh] at he
  simp only [Option.some.injEq, Prod.mk.injEq] at he
  obtain ⟨rfl, rfl⟩ := he
  simp only [DRel] at hd
  obtain ⟨base', c, hv, hle, hd⟩ := hd
  simp at hv
  obtain ⟨rfl, rfl⟩ := hv
  refine ⟨hle, fun h => ?_⟩
  cases l with
  | a base cp =>
    simp only [Lay.hdr, Option.some.injEq, Prod.mk.injEq] at hh
    obtain ⟨h1, rfl⟩ := hh
    rcases hd with hd | ⟨b, o, vs, hb, _⟩
    · subst hd; simp at h
    · cases base with
      | none => subst hb; simp [Lay.head] at h1
      | some b' => exact ⟨b', rfl, h1.symm⟩
  | z hd => simp only [Lay.hdr, Option.some.injEq, Prod.mk.injEq] at hh; obtain ⟨_, rfl⟩ := hh; omega
  | c b => simp [Lay.hdr] at hh
  | m r => simp [Lay.hdr] at hh

theorem evIA_ok (hT : TabOk P T) (hs : SR w I L s a) {t : TypeId} {x ix : FV} {vx vi : Value} {z : FV} (hx : VRel w I L x vx) (hi : VRel w I L ix vi) (h : evIA T s t x ix = some z) :
    ∃ v, (∀ w' : World, (Instr.indexAt t vx vi).run P w' = .ok v w') ∧ VRel w I L z v := by
  unfold evIA at h
  split at h
  · rename_i kk j
    simp only [VRel, DRel] at hi
    subst hi
    simp only [Option.bind_eq_some_iff] at h
    obtain ⟨i, hti, h⟩ := h
    have hI := (hT _ _ hti).kind
    split at h
    · rename_i e hkd
      rw [hkd] at hI
      simp only [TKOk] at hI
      simp only [Option.bind_eq_some_iff] at h
      obtain ⟨ei, hei, h⟩ := h
      have hsz : ∀ w' : World, (sizeOf e).run P w' = .ok ei.size w' := fun w' => (hT _ _ hei).sizeOf
      split at h
      · rename_i id n
        simp only [VRel] at hx
        obtain ⟨ll, hd, cap, hl, hh, rfl⟩ := hx
        split at h
        · rename_i e' k xs hS
          split at h
          · rename_i hc
            obtain ⟨rfl, hn, h0, h1⟩ := hc
            cases h
            obtain ⟨b, rfl, rfl⟩ := (sl_cap hs hS hl hh).2 (by omega)
            refine ⟨_, fun w' => by simp [Instr.indexAt, runU hI, asIntOf, h0, h1, hsz, Addr.add_lit] <;> rfl, ?_⟩
            simp only [VRel]
            exact ⟨b, cap, hl, by simp⟩
          · cases h
        · rename_i k xs hS
          split at h
          · rename_i hc
            obtain ⟨rfl, hn, h0, h1⟩ := hc
            cases h
            obtain ⟨b, rfl, rfl⟩ := (frz_cap hs hS hl hh).2 (by omega)
            refine ⟨_, fun w' => by simp [Instr.indexAt, runU hI, asIntOf, h0, h1, hsz, Addr.add_lit] <;> rfl, ?_⟩
            simp only [VRel]
            exact ⟨b, cap, hl, by simp⟩
          · cases h
        · cases h
      · rename_i k xs
        split at h
        · rename_i hc
          obtain ⟨rfl, h0, h1⟩ := hc
          simp only [Option.map_eq_some_iff] at h
          obtain ⟨y, hy, rfl⟩ := h
          simp only [VRel, DRel] at hx
          obtain ⟨base, c, rfl, _, hx⟩ := hx
          rcases hx with hx | ⟨b, o, vs, rfl, hb, hc, hr⟩
          · subst hx; simp at hy
          · obtain ⟨v, hv, hk, hcc⟩ := elem_cells hr hc hy
            refine ⟨_, fun w' => by simp [Instr.indexAt, runU hI, asIntOf, h0, h1, hsz, Addr.add_lit] <;> rfl, ?_⟩
            simp only [VRel]
            exact ⟨b, _, v.cells.toList, rfl, hb, hcc, hv.ones, hv.cells⟩
        · cases h
      · rename_i id k' off n
        simp only [VRel] at hx
        obtain ⟨ll, hd, c, hl, rfl, hle, hx⟩ := hx
        split at h
        · rename_i e' k xs hS
          split at h
          · rename_i hc
            obtain ⟨rfl, rfl, hn, h0, h1⟩ := hc
            cases h
            rcases hx with h2 | ⟨b, cap, rfl, rfl, hcap⟩
            · omega
            refine ⟨_, fun w' => by simp [Instr.indexAt, runU hI, asIntOf, h0, h1, hsz, Addr.add_lit] <;> rfl, ?_⟩
            simp only [VRel]
            exact ⟨b, cap, hl, by simp [Nat.add_mul]⟩
          · cases h
        · cases h
      · cases h
    · rename_i n e hkd
      rw [hkd] at hI
      simp only [TKOk] at hI
      simp only [Option.bind_eq_some_iff] at h
      obtain ⟨ei, hei, h⟩ := h
      have hsz : ∀ w' : World, (sizeOf e).run P w' = .ok ei.size w' := fun w' => (hT _ _ hei).sizeOf
      split at h
      · rename_i id off
        split at h
        · rename_i hc
          obtain ⟨h0, h1⟩ := hc
          cases h
          simp only [VRel] at hx ⊢
          obtain ⟨b, hl, rfl⟩ := hx
          exact ⟨_, fun w' => by simp [Instr.indexAt, runU hI, asIntOf, Instr.sureAddr, h0, h1, hsz, Addr.add_lit] <;> rfl, b, hl, rfl⟩
        · cases h
      · cases h
    · cases h
  · cases h

theorem evIx_ok (hT : TabOk P T) {t : TypeId} {x ix : FV} {vx vi : Value} {z : FV} (hx : VRel w I L x vx) (hi : VRel w I L ix vi) (h : evIx T t x ix = some z) :
    ∃ v, (∀ w' : World, (Instr.index t vx vi).run P w' = .ok v w') ∧ VRel w I L z v := by
  unfold evIx at h
  split at h
  · rename_i kk j
    simp only [VRel, DRel] at hi
    subst hi
    simp only [Option.bind_eq_some_iff] at h
    obtain ⟨i, hti, h⟩ := h
    have hI := (hT _ _ hti).kind
    split at h
    · rename_i hkd
      rw [hkd] at hI
      simp only [TKOk] at hI
      split at h
      · rename_i l
        split at h
        · rename_i h0
          simp only [Option.map_eq_some_iff] at h
          obtain ⟨b, hb, rfl⟩ := h
          simp only [VRel, DRel] at hx
          subst hx
          have hb' : (⟨l.toArray⟩ : ByteArray)[j.toNat]? = some b := by
            have hlt := (List.getElem?_eq_some_iff.1 hb).1
            have hv := (List.getElem?_eq_some_iff.1 hb).2
            rw [getElem?_pos (⟨l.toArray⟩ : ByteArray) j.toNat (by simpa [ByteArray.size] using hlt)]
            congr 1
          refine ⟨_, fun w' => by simp [Instr.index, runU hI, asIntOf, h0, hb'] <;> rfl, by simp [VRel, DRel]⟩
        · cases h
      · cases h
    · rename_i n e hkd
      rw [hkd] at hI
      simp only [TKOk] at hI
      simp only [Option.bind_eq_some_iff] at h
      obtain ⟨ei, hei, h⟩ := h
      split at h
      · rename_i hc
        obtain ⟨h0, h1⟩ := hc
        simp only [Option.bind_eq_some_iff] at h
        obtain ⟨cs, hcs, h⟩ := h
        obtain ⟨vs, rfl, ho, hr⟩ := cellsV_ok hx hcs
        obtain ⟨v, hv, hz⟩ := partV_ok (hT _ _ hei) ho hr h
        exact ⟨v, fun w' => by simp [Instr.index, runU hI, asIntOf, h0, h1, (hT _ _ hei).sizeOf, hv], hz⟩
      · cases h
    · cases h
  · cases h

end
end Go.Proofs.YtjlamhilnkadcaaGreatDoor.Pay
