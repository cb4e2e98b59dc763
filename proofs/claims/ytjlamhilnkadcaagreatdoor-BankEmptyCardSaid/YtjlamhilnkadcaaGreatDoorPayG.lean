/- Operations that lay or write memory: variables, stores, makes, literals, appends. No statement of the seed is proved here. -/
import Derived.Test.YtjlamhilnkadcaaGreatDoorPayF
namespace Go.Proofs.YtjlamhilnkadcaaGreatDoor.Pay
open Go Go.RowKit
set_option linter.unusedVariables false
set_option linter.unusedSimpArgs false

/-! ### The blocks that objects own -/

theorem owns_append : ∀ (S : List Ob) (L : List Lay) (o : Ob) (l : Lay), S.length = L.length → owns (S ++ [o]) (L ++ [l]) = owns S L ++ own o l
  | [], [], o, l, _ => by simp [owns]
  | x :: S, y :: L, o, l, h => by
    simp only [List.cons_append, owns, List.append_assoc]
    rw [owns_append S L o l (by simpa using h)]
  | [], _ :: _, _, _, h => by simp at h
  | _ :: _, [], _, _, h => by simp at h

theorem owns_apart : ∀ {S : List Ob} {L : List Lay} {i j : Nat} {o o' : Ob} {l l' : Lay}, (owns S L).Nodup → S[i]? = some o → L[i]? = some l → S[j]? = some o' → L[j]? = some l' → i ≠ j → ∀ b ∈ own o l, b ∉ own o' l'
  | [], _, i, j, o, o', l, l', _, h, _, _, _, _ => by simp at h
  | x :: S, [], i, j, o, o', l, l', _, _, h, _, _, _ => by simp at h
  | x :: S, y :: L, i, j, o, o', l, l', hn, h1, h2, h3, h4, hij => by
    intro b hb hb'
    simp only [owns, List.nodup_append] at hn
    obtain ⟨_, hn2, hn3⟩ := hn
    cases i with
    | zero =>
      cases j with
      | zero => exact hij rfl
      | succ j =>
        simp at h1 h2; subst h1; subst h2
        exact hn3 b hb b (owns_mem (by simpa using h3) (by simpa using h4) b hb') rfl
    | succ i =>
      cases j with
      | zero =>
        simp at h3 h4; subst h3; subst h4
        exact hn3 b hb' b (owns_mem (by simpa using h1) (by simpa using h2) b hb) rfl
      | succ j => exact owns_apart hn2 (by simpa using h1) (by simpa using h2) (by simpa using h3) (by simpa using h4) (by omega) b hb hb'

theorem owns_set : ∀ {S : List Ob} {L : List Lay} {i : Nat} {o o' : Ob} {l : Lay}, S[i]? = some o → L[i]? = some l → own o' l = own o l → owns (S.set i o') L = owns S L
  | [], _, i, o, o', l, h, _, _ => by simp at h
  | x :: S, [], i, o, o', l, _, h, _ => by simp at h
  | x :: S, y :: L, i, o, o', l, h1, h2, h3 => by
    cases i with
    | zero => simp at h1 h2; subst h1; subst h2; simp [owns, h3]
    | succ i => simp only [List.set_cons_succ, owns]; rw [owns_set (by simpa using h1) (by simpa using h2) h3]

/-- An object is given up. -/
theorem owns_drop : ∀ {S : List Ob} {L : List Lay} {i : Nat} {o o' : Ob} {l : Lay}, S[i]? = some o → L[i]? = some l → own o' l = [] → (owns S L).Nodup →
    (owns (S.set i o') L).Nodup ∧ ∀ b ∈ owns (S.set i o') L, b ∈ owns S L ∧ b ∉ own o l
  | [], _, i, o, o', l, h, _, _, _ => by simp at h
  | x :: S, [], i, o, o', l, _, h, _, _ => by simp at h
  | x :: S, y :: L, i, o, o', l, h1, h2, h3, hn => by
    simp only [owns, List.nodup_append] at hn
    obtain ⟨hn1, hn2, hn3⟩ := hn
    cases i with
    | zero =>
      simp at h1 h2; subst h1; subst h2
      simp only [List.set_cons_zero, owns, h3, List.nil_append]
      exact ⟨hn2, fun b hb => ⟨List.mem_append.2 (.inr hb), fun hb' => hn3 b hb' b hb rfl⟩⟩
    | succ i =>
      obtain ⟨e1, e2⟩ := owns_drop (o' := o') (by simpa using h1) (by simpa using h2) h3 hn2
      simp only [List.set_cons_succ, owns]
      refine ⟨List.nodup_append.2 ⟨hn1, e1, fun a ha b hb => hn3 a ha b (e2 b hb).1⟩, fun b hb => ?_⟩
      rcases List.mem_append.1 hb with hb | hb
      · exact ⟨List.mem_append.2 (.inl hb), fun hb' => hn3 b hb b (owns_mem (by simpa using h1) (by simpa using h2) b hb') rfl⟩
      · exact ⟨List.mem_append.2 (.inr (e2 b hb).1), (e2 b hb).2⟩

section
variable {P : Program} {T : Nat → Option TI} {w w' : World} {I : Nat → Prop} {L : List Lay} {s s' : St} {a : Act}

/-- A world that keeps what is immutable and what objects own. -/
theorem SR.world (hs : SR w I L s a) (hw : ∀ b, I b → w'.heap[b]? = w.heap[b]?) (ho : ∀ b ∈ owns s.S L, w'.heap[b]? = w.heap[b]?) (hsz : w.heap.size ≤ w'.heap.size) : SR w' I L s a where
  env := fun t x hx => VRel.mono hw (fun _ h => h) (fun _ _ h => h) _ _ (hs.env t x hx)
  nt := hs.nt
  len := hs.len
  obs := fun i o l h1 h2 => ORel.mono hw (fun _ h => h) (fun _ _ h => h) (fun b hb => ho b (owns_mem h1 h2 b hb)) (hs.obs i o l h1 h2)
  nodup := hs.nodup
  sep := fun b hb => ⟨(hs.sep b hb).1, Nat.lt_of_lt_of_le (hs.sep b hb).2 hsz⟩
  imm := hs.imm.mono hw hsz
  defers := hs.defers

theorem lay_append (L : List Lay) (l : Lay) : ∀ (i : Nat) (x : Lay), L[i]? = some x → (L ++ [l])[i]? = some x := fun i x h => by
  rw [List.getElem?_append_left (List.getElem?_eq_some_iff.1 h).1]; exact h

/-- One object more; the world keeps what was there. -/
theorem SR.more (hs : SR w I L s a) (hw : ∀ b, b < w.heap.size → w'.heap[b]? = w.heap[b]?) (hsz : w.heap.size ≤ w'.heap.size) {o : Ob} {l : Lay} (ho : ORel w' I (L ++ [l]) o l)
    (hown : ∀ b ∈ own o l, w.heap.size ≤ b ∧ b < w'.heap.size) (hnd : (own o l).Nodup) : SR w' I (L ++ [l]) { s with S := s.S ++ [o] } a := by
  have h0 := hs.world (w' := w') (fun b hb => hw b (hs.imm b hb)) (fun b hb => hw b (hs.sep b hb).2) hsz
  refine ⟨fun t x hx => VRel.mono (fun _ _ => rfl) (fun _ h => h) (lay_append L l) _ _ (h0.env t x hx), hs.nt, by simp [hs.len], ?_, ?_, ?_, h0.imm, hs.defers⟩
  · intro i o' l' h1 h2
    by_cases hi : i < s.S.length
    · rw [List.getElem?_append_left hi] at h1
      rw [List.getElem?_append_left (by rw [hs.len]; exact hi)] at h2
      exact ORel.mono (fun _ _ => rfl) (fun _ h => h) (lay_append L l) (fun _ _ => rfl) (h0.obs i o' l' h1 h2)
    · rw [List.getElem?_append_right (by omega)] at h1
      rw [List.getElem?_append_right (by rw [hs.len]; omega), hs.len] at h2
      have hz : i - s.S.length = 0 := by have := (List.getElem?_eq_some_iff.1 h1).1; simp at this; omega
      rw [hz] at h1 h2
      simp at h1 h2
      subst h1; subst h2; exact ho
  · show (owns (s.S ++ [o]) (L ++ [l])).Nodup
    rw [owns_append _ _ _ _ hs.len.symm, List.nodup_append]
    refine ⟨hs.nodup, hnd, fun b hb c hc => ?_⟩
    have := (hs.sep b hb).2
    have := (hown c hc).1
    omega
  · intro b hb
    have hb' : b ∈ owns (s.S ++ [o]) (L ++ [l]) := hb
    rw [owns_append _ _ _ _ hs.len.symm] at hb'
    rcases List.mem_append.1 hb' with hb' | hb'
    · exact h0.sep b hb'
    · exact ⟨fun hi => by have := hs.imm b hi; have := (hown b hb').1; omega, (hown b hb').2⟩

theorem heapAlloc (w : World) (o : Obj) (b : Nat) (h : b < w.heap.size) : (w.alloc o).heap[b]? = w.heap[b]? := heap_alloc_old w o h

theorem Step.more (hs : SR w I L s a) (hw : ∀ b, b < w.heap.size → w'.heap[b]? = w.heap[b]?) (h1 : w'.os = w.os) (h2 : w'.tape = w.tape) (h3 : w'.output = w.output) (hsz : w.heap.size ≤ w'.heap.size)
    {o : Ob} {l : Lay} (hown : ∀ b ∈ own o l, w.heap.size ≤ b ∧ b < w'.heap.size) (hp : s.pin ≤ s.S.length) : Step w I L s w' I (L ++ [l]) { s with S := s.S ++ [o] } where
  evo := ⟨h1, h2, h3, hsz, fun b hb _ => hw b hb, fun _ h => h, fun _ h => .inl h, fun b hb => by
    have hb' : b ∈ owns (s.S ++ [o]) (L ++ [l]) := hb
    rw [owns_append _ _ _ _ hs.len.symm] at hb'
    rcases List.mem_append.1 hb' with hb' | hb'
    · exact .inl hb'
    · exact .inr (hown b hb').1⟩
  pin := rfl
  lay := fun i hi => by rw [List.getElem?_append_left (by rw [hs.len]; omega)]

/-- An object is written in place. -/
theorem SR.upd (hs : SR w I L s a) {i : Nat} {o o' : Ob} {l : Lay} (h1 : s.S[i]? = some o) (h2 : L[i]? = some l) (ho : own o' l = own o l)
    (hw : ∀ b, b < w.heap.size → b ∉ own o l → w'.heap[b]? = w.heap[b]?) (hsz : w'.heap.size = w.heap.size) (hr : ORel w' I L o' l) : SR w' I L { s with S := s.S.set i o' } a := by
  have hI : ∀ b, I b → w'.heap[b]? = w.heap[b]? := fun b hb => hw b (hs.imm b hb) fun hb' => (hs.sep b (owns_mem h1 h2 b hb')).1 hb
  refine ⟨fun t x hx => VRel.mono hI (fun _ h => h) (fun _ _ h => h) _ _ (hs.env t x hx), hs.nt, by simp [hs.len], ?_, ?_, ?_, hs.imm.mono hI (by omega), hs.defers⟩
  · intro j oj lj e1 e2
    by_cases hij : i = j
    · subst hij
      rw [List.getElem?_set_self (List.getElem?_eq_some_iff.1 h1).1] at e1
      cases e1
      rw [h2] at e2; cases e2
      exact hr
    · rw [List.getElem?_set_ne hij] at e1
      exact ORel.mono hI (fun _ h => h) (fun _ _ h => h) (fun b hb => hw b (hs.sep b (owns_mem e1 e2 b hb)).2 (owns_apart hs.nodup e1 e2 h1 h2 (Ne.symm hij) b hb)) (hs.obs j oj lj e1 e2)
  · show (owns (s.S.set i o') L).Nodup
    rw [owns_set h1 h2 ho]; exact hs.nodup
  · intro b hb
    have hb' : b ∈ owns (s.S.set i o') L := hb
    rw [owns_set h1 h2 ho] at hb'
    rw [hsz]
    exact hs.sep b hb'

theorem Step.upd {i : Nat} {o o' : Ob} {l : Lay} (h1 : s.S[i]? = some o) (h2 : L[i]? = some l) (ho : own o' l = own o l)
    (hw : ∀ b, b < w.heap.size → b ∉ own o l → w'.heap[b]? = w.heap[b]?) (hsz : w'.heap.size = w.heap.size) (e1 : w'.os = w.os) (e2 : w'.tape = w.tape) (e3 : w'.output = w.output) :
    Step w I L s w' I L { s with S := s.S.set i o' } where
  evo := ⟨e1, e2, e3, by omega, fun b hb hn => hw b hb (fun hb' => hn (owns_mem h1 h2 b hb')), fun _ h => h, fun _ h => .inl h, fun b hb => by
    have hb' : b ∈ owns (s.S.set i o') L := hb
    rw [owns_set h1 h2 ho] at hb'
    exact .inl hb'⟩
  pin := rfl
  lay := fun _ _ => rfl

/-- Setting a slot behind a step. -/
theorem put_step {s1 : St} {I' : Nat → Prop} {L' : List Lay} {dst : Option Nat} {x : FV} {v : Value} (h1 : SR w' I' L' s1 a) (h2 : Step w I L s w' I' L' s1) (hx : VRel w' I' L' x v) (hset : setS s1 dst x = some s') :
    SR w' I' L' s' (a.put dst v) ∧ Step w I L s w' I' L' s' := by
  obtain ⟨e1, e2, e3⟩ := h1.put hx hset
  refine ⟨e1, ⟨?_, e3.trans h2.pin, h2.lay⟩⟩
  rw [e2]; exact h2.evo

/-! ### Variables -/

def fvCells : FV → List FV
  | .d x => x.cs.map .d
  | .agg cs => cs
  | x => [x]

theorem fvCells_ok {x : FV} {v : Value} (hx : VRel w I L x v) (hn : x ≠ .dead ∧ ∀ vs, x ≠ .tup vs) : VRelL w I L (fvCells x) v.cells.toList ∧ Ones v.cells.toList := by
  cases x with
  | d x => simp only [VRel] at hx; exact ⟨hx.cells.toV, hx.ones⟩
  | agg cs => simp only [VRel] at hx; obtain ⟨vs, rfl, ho, hr⟩ := hx; simpa [fvCells, Value.cells] using ⟨hr, ho⟩
  | dead => exact absurd rfl hn.1
  | tup vs => exact absurd rfl (hn.2 vs)
  | ref id off => have h := hx; simp only [VRel] at hx; obtain ⟨b, _, rfl⟩ := hx; simp only [fvCells, VRelL]; exact ⟨⟨_, [], rfl, h, rfl⟩, by simp [Value.cells, Ones, Value.oneCell']⟩
  | sl id n => have h := hx; simp only [VRel] at hx; obtain ⟨l, hd, c, _, _, rfl⟩ := hx; simp only [fvCells, VRelL]; exact ⟨⟨_, [], rfl, h, rfl⟩, by simp [Value.cells, Ones, Value.oneCell']⟩
  | er id k i off => have h := hx; simp only [VRel] at hx; obtain ⟨b, c, _, rfl⟩ := hx; simp only [fvCells, VRelL]; exact ⟨⟨_, [], rfl, h, rfl⟩, by simp [Value.cells, Ones, Value.oneCell']⟩
  | dp cs => have h := hx; simp only [VRel] at hx; obtain ⟨b, o, vs, rfl, _⟩ := hx; simp only [fvCells, VRelL]; exact ⟨⟨_, [], rfl, h, rfl⟩, by simp [Value.cells, Ones, Value.oneCell']⟩
  | fn f cs => have h := hx; simp only [VRel] at hx; obtain ⟨vs, rfl, _⟩ := hx; simp only [fvCells, VRelL]; exact ⟨⟨_, [], rfl, h, rfl⟩, by simp [Value.cells, Ones, Value.oneCell']⟩
  | mp id => have h := hx; simp only [VRel] at hx; obtain ⟨r, _, rfl⟩ := hx; simp only [fvCells, VRelL]; exact ⟨⟨_, [], rfl, h, rfl⟩, by simp [Value.cells, Ones, Value.oneCell']⟩
  | so id k off n => have h := hx; simp only [VRel] at hx; obtain ⟨_, _, _, _, rfl, _⟩ := hx; simp only [fvCells, VRelL]; exact ⟨⟨_, [], rfl, h, rfl⟩, by simp [Value.cells, Ones, Value.oneCell']⟩
  | sc id n c => have h := hx; simp only [VRel] at hx; obtain ⟨_, _, _, _, rfl⟩ := hx; simp only [fvCells, VRelL]; exact ⟨⟨_, [], rfl, h, rfl⟩, by simp [Value.cells, Ones, Value.oneCell']⟩

def plainV : FV → Bool
  | .dead | .tup _ => false
  | _ => true

theorem plainV_ok {x : FV} (h : plainV x = true) : x ≠ .dead ∧ ∀ vs, x ≠ .tup vs := by
  constructor
  · rintro rfl; cases h
  · rintro vs rfl; cases h

/-- A new variable of given cells. -/
theorem newVar_ok (hs : SR w I L s a) (hp : s.pin ≤ s.S.length) {t : TypeId} {cs : List FV} {vs : List Value} (hr : VRelL w I L cs vs) (ho : Ones vs) :
    SR (w.alloc (.cells vs.toArray t)) I (L ++ [.c w.heap.size]) { s with S := s.S ++ [.cells t cs] } a ∧
    Step w I L s (w.alloc (.cells vs.toArray t)) I (L ++ [.c w.heap.size]) { s with S := s.S ++ [.cells t cs] } ∧
    VRel (w.alloc (.cells vs.toArray t)) I (L ++ [.c w.heap.size]) (.ref s.S.length 0) (.pointer (some ⟨w.heap.size, 0, none⟩)) := by
  have hsz : (w.alloc (.cells vs.toArray t)).heap.size = w.heap.size + 1 := by simp
  have hw := heapAlloc w (.cells vs.toArray t)
  have hown : ∀ b ∈ own (.cells t cs) (.c w.heap.size), w.heap.size ≤ b ∧ b < (w.alloc (.cells vs.toArray t)).heap.size := by
    intro b hb; simp [own] at hb; subst hb; omega
  refine ⟨hs.more hw (by omega) ⟨w.heap.size, vs, rfl, heap_alloc_new w _, ho, VRelL.mono (fun b hb => hw b (hs.imm b hb)) (fun _ h => h) (lay_append L _) _ _ hr⟩ hown (by simp [own]),
    Step.more hs hw rfl rfl rfl (by omega) hown hp, ?_⟩
  simp only [VRel]
  exact ⟨w.heap.size, by rw [List.getElem?_append_right (by rw [hs.len]; exact Nat.le_refl _), hs.len]; simp, rfl⟩

theorem OpOk.alloc (hT : TabOk P T) {o : Oper} {t : TypeId} {i : TI} (ho : o.op = .alloc t) (hi : T t = some i) (hp : s.pin ≤ s.S.length)
    (hset : setS { s with S := s.S ++ [.cells t (i.zero.map .d)] } o.dst (.ref s.S.length 0) = some s') : OpOk P o s s' := fun w I L a hs => by
  obtain ⟨z, hz, hl, hsz⟩ := (hT _ _ hi).zeroValue (w := w)
  obtain ⟨h1, h2⟩ := ofLeaves_ok (w := w) (I := I) hl
  obtain ⟨e1, e2, e3⟩ := newVar_ok hs hp (t := t) h1.toV h2
  obtain ⟨e4, e5⟩ := put_step e1 e2 e3 hset
  refine ⟨_, _, I, _, _, ?_, .inl rfl, e4, e5⟩
  unfold execOp
  simp only [ho, Instr.alloc, Sem.run_bind, hz, Result.andThen_ok, newVar, newRow, run_newObj, Sem.run_pure]
  rfl

theorem OpOk.box {o : Oper} {t : TypeId} {x : Operand} {v : FV} (ho : o.op = .box t x) (hx : evX s x = some v) (hpl : plainV v = true) (hp : s.pin ≤ s.S.length)
    (hset : setS { s with S := s.S ++ [.cells t (fvCells v)] } o.dst (.ref s.S.length 0) = some s') : OpOk P o s s' := fun w I L a hs => by
  obtain ⟨h1, h2⟩ := fvCells_ok (hs.evX hx) (plainV_ok hpl)
  obtain ⟨e1, e2, e3⟩ := newVar_ok hs hp (t := t) h1 h2
  obtain ⟨e4, e5⟩ := put_step e1 e2 e3 hset
  refine ⟨_, _, I, _, _, ?_, .inl rfl, e4, e5⟩
  unfold execOp
  simp only [ho, Instr.box, Sem.run_bind, Result.andThen_ok, newVar, newRow, run_newObj, Sem.run_pure]
  rfl

/-! ### Stores -/

theorem DRel.leaf {x : D} {v : Value} (h : DRel w I x v) (hx : ∀ cs, x ≠ .agg cs) : v.cells.toList = [v] := by
  cases x <;> simp only [DRel] at h
  case agg => exact absurd rfl (hx _)
  case list => obtain ⟨_, _, rfl, _⟩ := h; rfl
  case any => obtain ⟨_, _, rfl⟩ := h; rfl
  case map => obtain ⟨_, _, _, rfl, _⟩ := h; rfl
  all_goals (subst h; rfl)

/-- Cells exchanged for others. -/
def spl {α : Type} (cs : List α) (off : Nat) (vs : List α) : List α := match vs with
  | [v] => cs.set off v
  | _ => cs.take off ++ vs ++ cs.drop (off + vs.length)

theorem spl_eq {α : Type} {cs : List α} {off : Nat} {vs : List α} (h : off + vs.length ≤ cs.length) : spl cs off vs = cs.take off ++ vs ++ cs.drop (off + vs.length) := by
  unfold spl
  split
  · rename_i v
    simp only [List.length_cons, List.length_nil] at h
    rw [List.set_eq_take_append_cons_drop, if_pos (by omega)]
    simp
  · rfl

theorem storeVar_run {t : TypeId} {i : TI} (hi : TIOk P t i) {b off : Nat} {tt : TypeId} {cur : List Value} {v : Value} (hb : w.heap[b]? = some (.cells cur.toArray tt (0, 0))) (hsz : v.cells.size = i.size)
    (hle : off + v.cells.toList.length ≤ cur.length) (ho : Ones v.cells.toList) :
    (storeVar t ⟨b, off, none⟩ v).run P w = .ok () (w.setRow b (spl cur off v.cells.toList).toArray) := by
  have hr := run_storeCells_at P b off tt v.cells.toList 0 cur.toArray w hb (by simpa using hle) ho
  simp only [storeVar, Sem.run_bind, hi.sizeOf, Result.andThen_ok, hsz, ne_eq, not_true, if_false]
  rw [hr, spl_eq hle]
  simp

theorem setRow_keep {b : Nat} {cs : Array Value} : ∀ k, k < w.heap.size → k ∉ [b] → (w.setRow b cs).heap[k]? = w.heap[k]? := fun k _ hk => setRow_other w b k cs (by simpa using hk)

def evStN (T : Nat → Option TI) (s : St) (t : TypeId) (p x : FV) : Option (List Ob) :=
  (T t).bind fun i => if plainV x = true ∧ (fvCells x).length = i.size then (match p with
  | .ref id off => (match s.S[id]? with
    | some (.cells tt cs) => if off + i.size ≤ cs.length then some (s.S.set id (.cells tt (spl cs off (fvCells x)))) else none
    | _ => none)
  | .er id k j off => (match s.S[id]? with
    | some (.arr e k' xs) => if k' = k then (xs[j]?).bind fun y => (allD (fvCells x)).bind fun ds => (match y with
      | .agg cs => if off + ds.length ≤ cs.length then some (s.S.set id (.arr e k (xs.set j (.agg (spl cs off ds))))) else none
      | _ => if off = 0 then (match x with
        | .d z => (match z with
          | .agg _ => none
          | z => some (s.S.set id (.arr e k (xs.set j z))))
        | _ => none) else none) else none
    | _ => none)
  | _ => none) else none

theorem VRelL.spl {cs ds : List FV} {vs us : List Value} {off : Nat} (h : VRelL w I L cs vs) (h' : VRelL w I L ds us) (hle : off + ds.length ≤ cs.length) : VRelL w I L (spl cs off ds) (spl vs off us) := by
  rw [spl_eq hle, spl_eq (by rw [h.length, h'.length]; exact hle), h'.length]
  exact ((h.take off).append h').append (h.drop _)

theorem DRelL.append {cs ds : List D} {vs us : List Value} (h : DRelL w I cs vs) (h' : DRelL w I ds us) : DRelL w I (cs ++ ds) (vs ++ us) := by
  induction cs generalizing vs with
  | nil => simp only [DRelL] at h; subst h; simpa using h'
  | cons c cs ih =>
    simp only [DRelL] at h
    obtain ⟨v, r, rfl, h1, h2⟩ := h
    simp only [List.cons_append, DRelL]
    exact ⟨v, r ++ us, rfl, h1, ih h2⟩

theorem DRelL.spl {cs ds : List D} {vs us : List Value} {off : Nat} (h : DRelL w I cs vs) (h' : DRelL w I ds us) (hle : off + ds.length ≤ cs.length) : DRelL w I (spl cs off ds) (spl vs off us) := by
  rw [spl_eq hle, spl_eq (by rw [h.length, h'.length]; exact hle), h'.length]
  exact ((h.take off).append h').append (h.drop _)

theorem Ones.spl {vs us : List Value} {off : Nat} (h : Ones vs) (h' : Ones us) (hle : off + us.length ≤ vs.length) : Ones (spl vs off us) := by
  rw [spl_eq hle]
  intro v hv
  simp only [List.mem_append] at hv
  rcases hv with (hv | hv) | hv
  · exact h v (List.mem_of_mem_take hv)
  · exact h' v hv
  · exact h v (List.mem_of_mem_drop hv)

/-- A row of the call's own, written within an element. -/
theorem ownsRow_spl {e : TypeId} {k n cap b : Nat} {vs us : List Value} {p : Nat} (h : w.ownsRow 0 e k (.slice (some ⟨b, 0, none⟩) n cap) n vs) (hle : p + us.length ≤ vs.length) :
    ∃ cur : List Value, w.heap[b]? = some (.cells cur.toArray e (0, 0)) ∧ p + us.length ≤ cur.length ∧ (w.setRow b (spl cur p us).toArray).ownsRow 0 e k (.slice (some ⟨b, 0, none⟩) n cap) n (spl vs p us) := by
  obtain ⟨hl, h⟩ := h
  rcases h with ⟨h, _⟩ | ⟨g, cp, cur, he, _, hg, hn, hm, hc, ht⟩
  · cases h
  · cases he
    have hcl : p + us.length ≤ cur.toList.length := by
      have := congrArg List.length ht
      rw [List.length_take] at this
      omega
    refine ⟨cur.toList, by simpa using hg, hcl, ?_, .inr ⟨b, cap, _, rfl, Nat.zero_le _, setRow_heap w b cur _ e (0, 0) hg, hn, hm, ?_, ?_⟩⟩
    · rw [spl_eq hle]
      simp only [List.length_append, List.length_take, List.length_drop]
      omega
    · rw [spl_eq hcl]
      simp only [List.size_toArray, List.length_append, List.length_take, List.length_drop, Array.length_toList]
      simp only [Array.length_toList] at hcl
      omega
    · rw [spl_eq hle, spl_eq hcl]
      rw [← ht] at hle ⊢
      simp only [List.length_take, Array.length_toList] at hle
      apply List.ext_getElem?
      intro j
      simp only [List.getElem?_take, List.getElem?_append, List.getElem?_drop, List.length_append, List.length_take, Array.length_toList]
      have hc' : p ≤ cur.size := by omega
      by_cases h1 : j < n * k
      · simp only [h1, if_true]
        by_cases h2 : j < p
        · have : j < min p cur.size := by omega
          have h3 : j < min p (min (n * k) cur.size) := by omega
          simp [this, h3, h2, show j < min p cur.size + us.length by omega, show j < min p (min (n * k) cur.size) + us.length by omega]
        · have e1 : min p cur.size = p := by omega
          have e2 : min p (min (n * k) cur.size) = p := by omega
          rw [e1, e2]
          by_cases h3 : j < p + us.length
          · simp [h2, h3]
          · simp [h3, show p + us.length + (j - (p + us.length)) < n * k by omega]
      · have h2 : ¬ j < p := by omega
        have e2 : min p (min (n * k) cur.size) = p := by omega
        simp only [h1, if_false, e2]
        simp [show ¬ j < p + us.length by omega, show ¬ p + us.length + (j - (p + us.length)) < n * k by omega]

theorem OpOk.store (hT : TabOk P T) {o : Oper} {t : TypeId} {p x : Operand} {vp vx : FV} {S' : List Ob} (ho : o.op = .store t p x) (hp : evX s p = some vp) (hx : evX s x = some vx)
    (hst : evStN T s t vp vx = some S') (hset : setS { s with S := S' } o.dst (.tup []) = some s') : OpOk P o s s' := fun w I L a hs => by
  have hvp := hs.evX hp
  have hvx := hs.evX hx
  have hund : ∀ (W : World) (L' : List Lay), VRel W I L' (.tup []) undef := fun W L' => by simp only [VRel, VRelL]; exact ⟨[], rfl, rfl⟩
  unfold evStN at hst
  simp only [Option.bind_eq_some_iff] at hst
  obtain ⟨i, hi, hst⟩ := hst
  have hI := hT _ _ hi
  split at hst
  · rename_i hc
    obtain ⟨hpl, hlen⟩ := hc
    obtain ⟨hcs, hones⟩ := fvCells_ok hvx (plainV_ok hpl)
    have hsz : (a.eval x).cells.size = i.size := by rw [← Array.length_toList, hcs.length]; exact hlen
    split at hst
    · rename_i id off
      simp only [VRel] at hvp
      obtain ⟨b, hl, hvp⟩ := hvp
      split at hst
      · rename_i tt cs hS
        split at hst
        · rename_i hle
          cases hst
          obtain ⟨b', vs, he, hb, h1, hr⟩ := hs.obs _ _ _ hS hl
          cases he
          have hle' : off + (a.eval x).cells.toList.length ≤ vs.length := by rw [Array.length_toList, hsz, hr.length]; exact hle
          have hrun := storeVar_run (P := P) hI hb hsz hle' hones
          have hk : ∀ k, k < w.heap.size → k ∉ own (.cells tt cs) (.c b) → (w.setRow b (spl vs off (a.eval x).cells.toList).toArray).heap[k]? = w.heap[k]? := setRow_keep
          have hII : ∀ k, I k → (w.setRow b (spl vs off (a.eval x).cells.toList).toArray).heap[k]? = w.heap[k]? := fun k hkI => hk k (hs.imm k hkI) fun hb' => (hs.sep k (owns_mem hS hl k hb')).1 hkI
          have e1 := hs.upd (o' := .cells tt (spl cs off (fvCells vx))) hS hl rfl hk (by simp) ⟨b, _, rfl, setRow_heap w b _ _ tt (0, 0) hb, h1.spl hones hle',
            VRelL.mono hII (fun _ h => h) (fun _ _ h => h) _ _ (hr.spl hcs (by rw [hlen]; exact hle))⟩
          have e2 := Step.upd (I := I) (s := s) (o' := .cells tt (spl cs off (fvCells vx))) hS hl rfl hk (by simp) rfl rfl rfl
          obtain ⟨e4, e5⟩ := put_step e1 e2 (hund _ _) hset
          refine ⟨_, _, I, L, _, ?_, .inr ⟨rfl, rfl⟩, e4, e5⟩
          unfold execOp
          simp only [ho, Instr.storeAt, hvp, Instr.sureAddr, Sem.run_bind, Sem.run_pure, Result.andThen_ok, hrun]
        · cases hst
      · cases hst
    · rename_i id k j off
      simp only [VRel] at hvp
      obtain ⟨b, cap, hl, hvp⟩ := hvp
      split at hst
      · rename_i e k' xs hS
        split at hst
        · rename_i hk; subst hk
          simp only [Option.bind_eq_some_iff] at hst
          obtain ⟨y, hy, ds, hds, hst⟩ := hst
          rcases hs.obs _ _ _ hS hl with ⟨base, cp, vs, he, hown, hr⟩ | ⟨hd, he, _⟩
          rotate_left
          · cases he
          cases he
          have hdr := hcs.allD hds
          obtain ⟨v, hv, hvk, hvd⟩ := hr.get j y hy
          have hj : j < xs.length := (List.getElem?_eq_some_iff.1 hy).1
          have hlv : vs.length = xs.length * k' := hr.length
          have hjk : j * k' + k' ≤ xs.length * k' := by
            have := Nat.mul_le_mul_right k' (show j + 1 ≤ xs.length from hj)
            rwa [Nat.succ_mul] at this
          have hdl : ds.length = (a.eval x).cells.toList.length := hdr.length.symm
          have key : ∀ z : D, off + (a.eval x).cells.toList.length ≤ k' → (∃ u, DRel w I z u ∧ u.cells.size = k' ∧ u.cells.toList = spl v.cells.toList off (a.eval x).cells.toList) → S' = s.S.set id (.arr e k' (xs.set j z)) →
              ∃ r w' I' L' v, (execOp a.eval o).run P w = .ok r w' ∧ (r = .value v ∨ r = .skip ∧ v = undef) ∧ SR w' I' L' s' (a.put o.dst v) ∧ Step w I L s w' I' L' s' := by
            intro z hle hz hS'
            obtain ⟨u, hu, huk, hus⟩ := hz
            have hle2 : j * k' + off + (a.eval x).cells.toList.length ≤ vs.length := by rw [hlv]; omega
            obtain ⟨cur, hcur, hcl, hown'⟩ := ownsRow_spl hown hle2
            have hrun := storeVar_run (P := P) hI hcur hsz hcl hones
            have hk2 : ∀ q, q < w.heap.size → q ∉ own (.arr e k' xs) (.a (some b) cap) → (w.setRow b (spl cur (j * k' + off) (a.eval x).cells.toList).toArray).heap[q]? = w.heap[q]? := setRow_keep
            have hII : ∀ q, I q → (w.setRow b (spl cur (j * k' + off) (a.eval x).cells.toList).toArray).heap[q]? = w.heap[q]? := fun q hqI => hk2 q (hs.imm q hqI) fun hb' => (hs.sep q (owns_mem hS hl q hb')).1 hqI
            have hset2 := hr.set j hj hu huk
            have hspl : spl vs (j * k' + off) (a.eval x).cells.toList = vs.take (j * k') ++ u.cells.toList ++ vs.drop (j * k' + k') := by
              have h1v : v.cells.toList.length = k' := by rw [Array.length_toList, hvk]
              rw [hus, spl_eq hle2, spl_eq (show off + (a.eval x).cells.toList.length ≤ v.cells.toList.length from by rw [h1v]; exact hle), ← hvd]
              have hz1 : (vs.drop (j * k')).take off = (vs.drop (j * k')).take off := rfl
              rw [List.take_take, Nat.min_eq_left (by omega), List.drop_take, List.drop_drop]
              rw [show vs.take (j * k' + off) = vs.take (j * k') ++ (vs.drop (j * k')).take off from by rw [List.take_add]]
              have hz2 : (vs.drop (j * k' + (off + (a.eval x).cells.toList.length))).take (k' - (off + (a.eval x).cells.toList.length)) ++ vs.drop (j * k' + k') = vs.drop (j * k' + off + (a.eval x).cells.toList.length) := by
                rw [show vs.drop (j * k' + k') = (vs.drop (j * k' + (off + (a.eval x).cells.toList.length))).drop (k' - (off + (a.eval x).cells.toList.length)) from by rw [List.drop_drop]; congr 1; omega]
                rw [List.take_append_drop]
                congr 1
                omega
              simp only [List.append_assoc]
              rw [hz2]
            rw [← hspl] at hset2
            have hxl : (xs.set j z).length = xs.length := by simp
            have e1 := hs.upd (o' := .arr e k' (xs.set j z)) hS hl rfl hk2 (by simp) (.inl ⟨some b, cap, _, rfl, by rw [hxl]; exact hown', DRelR.mono hII (fun _ h => h) _ _ _ hset2⟩)
            have e2 := Step.upd (I := I) (s := s) (o' := .arr e k' (xs.set j z)) hS hl rfl hk2 (by simp) rfl rfl rfl
            subst hS'
            obtain ⟨e4, e5⟩ := put_step e1 e2 (hund _ _) hset
            refine ⟨_, _, I, L, _, ?_, .inr ⟨rfl, rfl⟩, e4, e5⟩
            unfold execOp
            simp only [ho, Instr.storeAt, hvp, Instr.sureAddr, Sem.run_bind, Sem.run_pure, Result.andThen_ok, hrun]
          split at hst
          · rename_i cs
            split at hst
            · rename_i hle
              cases hst
              simp only [DRel] at hv
              obtain ⟨us, rfl, hus, hru⟩ := hv
              have hcl : cs.length = k' := by rw [← hru.length]; simpa [Value.cells] using hvk
              have hle3 : off + (a.eval x).cells.toList.length ≤ us.length := by rw [← hdl, hru.length]; exact hle
              refine key _ (by rw [← hdl, ← hcl]; exact hle) ⟨.agg (spl us off (a.eval x).cells.toList).toArray, ?_, ?_, rfl⟩ rfl
              · simp only [DRel]
                exact ⟨_, rfl, hus.spl hones hle3, hru.spl hdr hle⟩
              · have hsl : (spl us off (a.eval x).cells.toList).length = us.length := by
                  rw [spl_eq hle3]
                  simp only [List.length_append, List.length_take, List.length_drop]
                  omega
                show (spl us off (a.eval x).cells.toList).length = k'
                rw [hsl, hru.length, hcl]
            · cases hst
          · rename_i hya
            split at hst
            · rename_i h0
              subst h0
              split at hst
              · rename_i z0
                split at hst
                · cases hst
                · rename_i z hza
                  cases hst
                  simp only [VRel] at hvx
                  have hy1 : v.cells.toList = [v] := hv.leaf (fun cs e => hya cs e)
                  have hx1 : (a.eval x).cells.toList = [a.eval x] := hvx.leaf (fun cs e => hza cs e)
                  have hk1 : k' = 1 := by rw [← hvk, ← Array.length_toList, hy1]; rfl
                  refine key _ (by rw [hx1, hk1]; simp) ⟨a.eval x, hvx, by rw [← Array.length_toList, hx1, hk1]; rfl, by rw [hx1, hy1]; rfl⟩ rfl
              · cases hst
            · cases hst
        · cases hst
      · cases hst
    · cases hst
  · cases hst

end
end Go.Proofs.YtjlamhilnkadcaaGreatDoor.Pay
