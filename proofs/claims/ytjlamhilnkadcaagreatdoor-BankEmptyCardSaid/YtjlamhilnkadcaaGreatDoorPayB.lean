/- States of a frame over abstract data, and rules of reasoning over them: code, regions, calls. No statement of the seed is proved here. -/
import Derived.Test.YtjlamhilnkadcaaGreatDoorPayA
namespace Go.Proofs.YtjlamhilnkadcaaGreatDoor.Pay
open Go Go.RowKit
set_option linter.unusedVariables false
set_option linter.unusedSimpArgs false

/-- A frame's state: what its slots hold (the first entry counts), its objects, how many slots, how many objects came in. -/
structure St where
  env : List (Nat × FV)
  S : List Ob
  nt : Nat
  pin : Nat

def get : List (Nat × FV) → Nat → Option FV
  | [], _ => none
  | (s, v) :: r, t => if s = t then some v else get r t

/-- A state as it stands in a world. -/
structure SR (w : World) (I : Nat → Prop) (L : List Lay) (s : St) (a : Act) : Prop where
  env : ∀ t x, get s.env t = some x → VRel w I L x (a.tmps.getD t undef)
  nt : a.tmps.size = s.nt
  len : L.length = s.S.length
  obs : ∀ (i : Nat) (o : Ob) (l : Lay), s.S[i]? = some o → L[i]? = some l → ORel w I L o l
  nodup : (owns s.S L).Nodup
  sep : ∀ b ∈ owns s.S L, ¬ I b ∧ b < w.heap.size
  imm : Imm w I
  defers : a.defers = []

/-- How a world may go on: A: the blocks that may be written. -/
structure Evo (w : World) (I : Nat → Prop) (A : List Nat) (w' : World) (I' : Nat → Prop) (A' : List Nat) : Prop where
  os : w'.os = w.os
  tape : w'.tape = w.tape
  output : w'.output = w.output
  size : w.heap.size ≤ w'.heap.size
  keep : ∀ b, b < w.heap.size → b ∉ A → w'.heap[b]? = w.heap[b]?
  imm : ∀ b, I b → I' b
  immNew : ∀ b, I' b → I b ∨ b ∈ A ∨ w.heap.size ≤ b
  own : ∀ b ∈ A', b ∈ A ∨ w.heap.size ≤ b

theorem Evo.refl (w : World) (I : Nat → Prop) (A : List Nat) : Evo w I A w I A :=
  ⟨rfl, rfl, rfl, Nat.le_refl _, fun _ _ _ => rfl, fun _ h => h, fun _ h => .inl h, fun _ h => .inl h⟩

theorem Evo.trans {w w1 w2 : World} {I I1 I2 : Nat → Prop} {A A1 A2 : List Nat} (h : Evo w I A w1 I1 A1) (k : Evo w1 I1 A1 w2 I2 A2) : Evo w I A w2 I2 A2 where
  os := k.os.trans h.os
  tape := k.tape.trans h.tape
  output := k.output.trans h.output
  size := Nat.le_trans h.size k.size
  keep := fun b hb hA => (k.keep b (Nat.lt_of_lt_of_le hb h.size) (fun h1 => by
    rcases h.own b h1 with h2 | h2
    · exact hA h2
    · omega)).trans (h.keep b hb hA)
  imm := fun b hb => k.imm b (h.imm b hb)
  immNew := fun b hb => by
    rcases k.immNew b hb with h1 | h1 | h1
    · exact h.immNew b h1
    · rcases h.own b h1 with h2 | h2
      · exact .inr (.inl h2)
      · exact .inr (.inr h2)
    · exact .inr (.inr (Nat.le_trans h.size h1))
  own := fun b hb => by
    rcases k.own b hb with h1 | h1
    · exact h.own b h1
    · exact .inr (Nat.le_trans h.size h1)

/-- A step from a state to a state. -/
structure Step (w : World) (I : Nat → Prop) (L : List Lay) (s : St) (w' : World) (I' : Nat → Prop) (L' : List Lay) (s' : St) : Prop where
  evo : Evo w I (owns s.S L) w' I' (owns s'.S L')
  pin : s'.pin = s.pin
  lay : ∀ i : Nat, i < s.pin → L'[i]? = L[i]?

theorem Step.refl (w : World) (I : Nat → Prop) (L : List Lay) (s : St) : Step w I L s w I L s := ⟨Evo.refl _ _ _, rfl, fun _ _ => rfl⟩
theorem Step.trans {w w1 w2 : World} {I I1 I2 : Nat → Prop} {L L1 L2 : List Lay} {s s1 s2 : St} (h : Step w I L s w1 I1 L1 s1) (k : Step w1 I1 L1 s1 w2 I2 L2 s2) : Step w I L s w2 I2 L2 s2 :=
  ⟨h.evo.trans k.evo, k.pin.trans h.pin, fun i hi => (k.lay i (h.pin ▸ hi)).trans (h.lay i hi)⟩

def Post (w : World) (I : Nat → Prop) (L : List Lay) (s : St) (Q : Exit → St → Prop) (e : Exit) (a' : Act) (w' : World) : Prop :=
  ∃ s' I' L', Q e s' ∧ SR w' I' L' s' a' ∧ Step w I L s w' I' L' s'

theorem Post.from {w w1 : World} {I I1 : Nat → Prop} {L L1 : List Lay} {s s1 : St} {Q : Exit → St → Prop} {e : Exit} {a' : Act} {w' : World}
    (h : Step w I L s w1 I1 L1 s1) (p : Post w1 I1 L1 s1 Q e a' w') : Post w I L s Q e a' w' := by
  obtain ⟨s', I', L', q, r, t⟩ := p
  exact ⟨s', I', L', q, r, h.trans t⟩

def WpC (P : Program) (c : Code) (s : St) (Q : Exit → St → Prop) : Prop :=
  ∀ w I L a, SR w I L s a → c.wp P (Post w I L s Q) a w

def WpO (P : Program) (all : Array Oper) (rest : List Oper) (s : St) (Q : Exit → St → Prop) : Prop :=
  ∀ w I L a, SR w I L s a → wpList P all (Post w I L s Q) rest a w

theorem upon_mono {P : Program} {o : Oper} {a : Act} {n n' : Act → World → Prop} {Q Q' : Exit → Act → World → Prop} (hn : ∀ a w, n a w → n' a w) (hQ : ∀ e a w, Q e a w → Q' e a w)
    {r : Result Next} (h : o.upon P a n Q r) : o.upon P a n' Q' r := by
  unfold Oper.upon at h ⊢
  split at h
  · exact hn _ _ h
  · exact hn _ _ h
  · exact hn _ _ h
  · exact h.mono fun e w hw => by
      cases e with
      | returned v => exact hn _ _ hw
      | panicked c => exact hQ _ _ _ hw
      | outgrown => obtain ⟨a₀, w₀, q⟩ := hw; exact ⟨a₀, w₀, hQ _ _ _ q⟩
  · exact h.mono fun v w hw => hn _ _ hw
  · exact hQ _ _ _ h
  · exact h.elim

theorem wpList_mono {P : Program} {all : Array Oper} {Q Q' : Exit → Act → World → Prop} (hQ : ∀ e a w, Q e a w → Q' e a w) : ∀ (l : List Oper) (a : Act) (w : World), wpList P all Q l a w → wpList P all Q' l a w
  | [], a, w, h => hQ _ _ _ h
  | o :: l, a, w, h => by
    unfold wpList at h ⊢
    split
    · rename_i hw
      rw [if_pos hw] at h
      rcases h with h | ⟨h1, a₀, w₀, h2⟩
      · exact .inl (upon_mono (wpList_mono hQ l) hQ h)
      · exact .inr ⟨h1, a₀, w₀, hQ _ _ _ h2⟩
    · rename_i hw
      rw [if_neg hw] at h
      exact wpList_mono hQ l _ _ h

theorem WpC.mono {P : Program} {c : Code} {s : St} {Q Q' : Exit → St → Prop} (h : WpC P c s Q) (hq : ∀ e s, Q e s → Q' e s) : WpC P c s Q' :=
  fun w I L a hs => wp_mono (h w I L a hs) fun _ _ _ ⟨s', I', L', q, r⟩ => ⟨s', I', L', hq _ _ q, r⟩
theorem WpO.mono {P : Program} {all : Array Oper} {rest : List Oper} {s : St} {Q Q' : Exit → St → Prop} (h : WpO P all rest s Q) (hq : ∀ e s, Q e s → Q' e s) : WpO P all rest s Q' :=
  fun w I L a hs => wpList_mono (fun _ _ _ ⟨s', I', L', q, r⟩ => ⟨s', I', L', hq _ _ q, r⟩) _ _ _ (h w I L a hs)

/-! ### Control -/
section
variable {P : Program} {s : St} {Q : Exit → St → Prop}

theorem post_here {w : World} {I : Nat → Prop} {L : List Lay} {a : Act} {e : Exit} (hs : SR w I L s a) (h : Q e s) : Post w I L s Q e a w := ⟨s, I, L, h, hs, Step.refl _ _ _ _⟩

theorem WpC.skip (h : Q .normal s) : WpC P .skip s Q := fun _ _ _ _ hs => wp_skip (post_here hs h)
theorem WpC.label {l : Nat} (h : Q .normal s) : WpC P (.label l) s Q := fun _ _ _ _ hs => wp_label (post_here hs h)
theorem WpC.exit {id : Nat} (h : Q (.exit id) s) : WpC P (.exit id) s Q := fun _ _ _ _ hs => wp_exit (post_here hs h)
theorem WpC.goto {l : Nat} (h : Q (.goto l) s) : WpC P (.goto l) s Q := fun _ _ _ _ hs => wp_goto (post_here hs h)
theorem WpC.ret (h : Q .ret s) : WpC P .ret s Q := fun _ _ _ _ hs => wp_ret (post_here hs h)

def seqQ (P : Program) (y : Code) (Q : Exit → St → Prop) : Exit → St → Prop
  | .normal, s => WpC P y s Q
  | e, s => Q e s

theorem WpC.seq {x y : Code} (h : WpC P x s (seqQ P y Q)) : WpC P (.seq x y) s Q := fun w I L a hs => by
  refine wp_seq (wp_mono (h w I L a hs) fun e a1 w1 hp => ?_)
  obtain ⟨s1, I1, L1, q, r, t⟩ := hp
  cases e with
  | normal => exact wp_mono (q w1 I1 L1 a1 r) fun _ _ _ p => p.from t
  | _ => exact ⟨s1, I1, L1, q, r, t⟩

def evB (s : St) : Operand → Option Bool
  | .tmp t => match get s.env t with
    | some (.d (.bool b)) => some b
    | _ => none
  | .const (.bool b) => some b
  | _ => none

theorem SR.evB {w : World} {I : Nat → Prop} {L : List Lay} {a : Act} (hs : SR w I L s a) {c : Operand} {b : Bool} (h : evB s c = some b) : a.eval c = .bool b := by
  unfold Pay.evB at h
  split at h
  · split at h
    · rename_i heq
      have := hs.env _ _ heq
      simp only [VRel, DRel] at this
      simp at h; subst h
      simpa [Act.eval] using this
    · cases h
  · simp at h; subst h; rfl
  · cases h

theorem WpC.cond {c : Operand} {x y : Code} (b : Bool) (hc : Pay.evB s c = some b) (h : WpC P (if b = true then x else y) s Q) : WpC P (.cond c x y) s Q := fun w I L a hs =>
  wp_cond (hs.evB hc) (h w I L a hs)
theorem WpC.condT {c : Operand} {x y : Code} (hc : Pay.evB s c = some true) (h : WpC P x s Q) : WpC P (.cond c x y) s Q := WpC.cond true hc (by simpa using h)
theorem WpC.condF {c : Operand} {x y : Code} (hc : Pay.evB s c = some false) (h : WpC P y s Q) : WpC P (.cond c x y) s Q := WpC.cond false hc (by simpa using h)
theorem WpC.condP {c : Operand} {x y : Code} (b : Bool) (hc : Pay.evB s c = some b) (ht : b = true → WpC P x s Q) (hf : b = false → WpC P y s Q) : WpC P (.cond c x y) s Q := by
  cases b
  · exact .condF hc (hf rfl)
  · exact .condT hc (ht rfl)
/-- A test of a decidable proposition. -/
theorem WpC.condD {c : Operand} {x y : Code} (p : Prop) [Decidable p] (hc : Pay.evB s c = some (decide p)) (ht : p → WpC P x s Q) (hf : ¬ p → WpC P y s Q) : WpC P (.cond c x y) s Q := by
  by_cases hp : p
  · exact .condT (by simpa [hp] using hc) (ht hp)
  · exact .condF (by simpa [hp] using hc) (hf hp)

def blockQ (id : Nat) (Q : Exit → St → Prop) : Exit → St → Prop
  | .exit id', s => if id' = id then Q .normal s else Q (.exit id') s
  | e, s => Q e s

theorem WpC.block {id : Nat} {c : Code} (h : WpC P c s (blockQ id Q)) : WpC P (.block id c) s Q := fun w I L a hs => by
  refine wp_block (wp_mono (h w I L a hs) fun e a1 w1 hp => ?_)
  obtain ⟨s1, I1, L1, q, r, t⟩ := hp
  cases e with
  | exit id' =>
    by_cases hid : id' = id
    · simp only [blockQ, hid, if_true] at q
      simp only [Exit.inBlock, hid, if_true]
      exact ⟨s1, I1, L1, q, r, t⟩
    · simp only [blockQ, hid, if_false] at q
      simp only [Exit.inBlock, hid, if_false]
      exact ⟨s1, I1, L1, q, r, t⟩
  | _ => exact ⟨s1, I1, L1, q, r, t⟩

/-- A loop: J n: what holds at its head when at most n rounds are left. -/
theorem WpC.loop {c : Code} (J : Nat → St → Prop) (n : Nat) (h0 : J n s)
    (hr : ∀ n s, J n s → WpC P c s (fun e s' => match e with | .normal => ∃ m, m < n ∧ J m s' | e => Q e s')) : WpC P (.loop c) s Q := by
  intro w I L a hs b k cs
  have key : ∀ n s1 w1 I1 L1 a1, J n s1 → SR w1 I1 L1 s1 a1 →
      ∃ e a' w', Post w1 I1 L1 s1 Q e a' w' ∧ Arrives P (lone (b.at a1 (.code c :: .inLoop c :: k)) cs w1) b k cs e a' w' := by
    intro n
    induction n using Nat.strongRecOn with
    | _ n ih =>
      intro s1 w1 I1 L1 a1 hj hs1
      obtain ⟨e, a2, w2, ⟨s2, I2, L2, q, r, t⟩, harr⟩ := hr n s1 hj w1 I1 L1 a1 hs1 b (.inLoop c :: k) cs
      cases e with
      | normal =>
        obtain ⟨m, hm, hj2⟩ := q
        obtain ⟨e3, a3, w3, p3, harr3⟩ := ih m hm s2 w2 I2 L2 a2 hj2 r
        exact ⟨e3, a3, w3, p3.from t, .of_steps (Steps.trans harr (.one step_inLoop)) harr3⟩
      | exit id => exact ⟨_, a2, w2, ⟨s2, I2, L2, q, r, t⟩, .pass (x := .inLoop c) rfl (fun _ _ => .inl (by simp)) harr⟩
      | goto l => exact ⟨_, a2, w2, ⟨s2, I2, L2, q, r, t⟩, .pass (x := .inLoop c) rfl (fun _ _ => .inl (by simp)) harr⟩
      | ret => exact ⟨_, a2, w2, ⟨s2, I2, L2, q, r, t⟩, .pass (x := .inLoop c) rfl (fun _ _ => .inl (by simp)) harr⟩
      | panic ch => exact ⟨_, a2, w2, ⟨s2, I2, L2, q, r, t⟩, .pass (x := .inLoop c) rfl (fun _ _ => .inl (by simp)) harr⟩
      | outgrown => exact ⟨_, a2, w2, ⟨s2, I2, L2, q, r, t⟩, .pass (x := .inLoop c) rfl (fun _ _ => .inl (by simp)) harr⟩
  obtain ⟨e, a', w', hp, harr⟩ := key n s w I L a h0 hs
  exact ⟨e, a', w', hp, .of_steps (.one step_loop) harr⟩
end
end Go.Proofs.YtjlamhilnkadcaaGreatDoor.Pay
