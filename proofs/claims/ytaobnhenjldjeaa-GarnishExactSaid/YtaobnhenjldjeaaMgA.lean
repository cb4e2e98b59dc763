/- The texts PayA, PayB, PayC, PayD, PayE, one behind the other. No statement of the seed is proved here. -/
import Derived.WalkKit
import Derived.WideLaws
import Derived.Laws.AppendOwn
import Derived.Laws.OwnMore
import Derived.Laws.MakeOwn
import Derived.Laws.Rows
import Derived.Laws.Tables
import Derived.Below
import Derived.Lib.Strings
/- The abstract data of this seat's proofs: data by value, values of a frame, objects; and how they stand in a world. No statement of the seed is proved here. -/
namespace Go.Proofs.Ytaobnhenjldjeaa.Pay
open Go Go.RowKit
set_option linter.unusedVariables false
set_option linter.unusedSimpArgs false

/-- Data by value. A struct is its cells, flat. -/
inductive D where
  | bool (b : Bool)
  | int (k : IntKind) (n : Int)
  | str (s : List UInt8)
  | flt (k : FloatKind) (b : Nat)
  | cpx (k : FloatKind) (re im : Nat)
  | nil
  | list (k : Nat) (xs : List D)
  | agg (cs : List D)
  | nilp
  | nili
  | any
  | nilm
  | map (ks es : List D)
  deriving Inhabited

/-- The cells of an element. -/
def D.cs : D → List D
  | .agg cs => cs
  | x => [x]

def CellsAt (w : World) (b o : Nat) (vs : List Value) : Prop := ∀ j v, vs[j]? = some v → w.cell? ⟨b, o + j, none⟩ = some v
def Ones (vs : List Value) : Prop := ∀ v ∈ vs, v.oneCell' = true

mutual
def DRel (w : World) (I : Nat → Prop) : D → Value → Prop
  | .bool b, v => v = .bool b
  | .int k n, v => v = .int k n
  | .str s, v => v = .string ⟨s.toArray⟩
  | .flt k b, v => v = .float k b
  | .cpx k a b, v => v = .complex k a b
  | .nil, v => v = .slice none 0 0
  | .list k xs, v => ∃ base c, v = .slice base xs.length c ∧ xs.length ≤ c ∧ (xs = [] ∨ ∃ b o vs, base = some ⟨b, o, none⟩ ∧ I b ∧ CellsAt w b o vs ∧ DRelR w I k xs vs)
  | .agg cs, v => ∃ vs : List Value, v = .agg vs.toArray ∧ Ones vs ∧ DRelL w I cs vs
  | .nilp, v => v = .pointer none
  | .nili, v => v = .nilIface
  | .any, v => ∃ t u, v = .iface t u
  | .nilm, v => v = .map none
  | .map ks es, v => ∃ r ents clock, v = .map (some r) ∧ I r ∧ w.heap[r]? = some (.map ents clock) ∧ DRelL w I ks (ents.toList.map (·.key)) ∧ DRelL w I es (ents.toList.map (·.val))
def DRelL (w : World) (I : Nat → Prop) : List D → List Value → Prop
  | [], vs => vs = []
  | c :: cs, vs => ∃ v r, vs = v :: r ∧ DRel w I c v ∧ DRelL w I cs r
def DRelR (w : World) (I : Nat → Prop) (k : Nat) : List D → List Value → Prop
  | [], vs => vs = []
  | x :: xs, vs => ∃ v r, vs = v.cells.toList ++ r ∧ v.cells.size = k ∧ DRel w I x v ∧ DRelR w I k xs r
end

/-- Values of a frame: data, or what leads to an object of the frame's store. -/
inductive FV where
  | d (x : D)
  | ref (id off : Nat)
  | sl (id n : Nat)
  | er (id k i off : Nat)
  | dp (cs : List D)
  | agg (cs : List FV)
  | fn (f : FuncId) (caps : List FV)
  | tup (vs : List FV)
  | mp (id : Nat)
  | so (id k off n : Nat)
  | sc (id n c : Nat)
  | dead
  deriving Inhabited

inductive Ob where
  | cells (t : TypeId) (cs : List FV)
  | arr (e : TypeId) (k : Nat) (xs : List D)
  | frz (k : Nat) (xs : List D)
  | map (ks es : List D)
  | fmap (ks es : List D)
  | gone
  deriving Inhabited

/-- Where an object lies. -/
inductive Lay where
  | c (b : Nat)
  | a (base : Option Nat) (cap : Nat)
  | z (hd : Option Addr)
  | m (r : Nat)

def Lay.head (base : Option Nat) : Option Addr := base.map fun b => ⟨b, 0, none⟩
/-- A row's address, and its capacity. -/
def Lay.hdr : Lay → Option (Option Addr × Nat)
  | .a base cap => some (Lay.head base, cap)
  | .z hd => some (hd, 0)
  | _ => none

mutual
def VRel (w : World) (I : Nat → Prop) (L : List Lay) : FV → Value → Prop
  | .d x, v => DRel w I x v
  | .ref id off, v => ∃ b, L[id]? = some (.c b) ∧ v = .pointer (some ⟨b, off, none⟩)
  | .sl id n, v => ∃ l hd cap, L[id]? = some l ∧ l.hdr = some (hd, cap) ∧ v = .slice hd n cap
  | .er id k i off, v => ∃ b cap, L[id]? = some (.a (some b) cap) ∧ v = .pointer (some ⟨b, i * k + off, none⟩)
  | .dp cs, v => ∃ b o vs, v = .pointer (some ⟨b, o, none⟩) ∧ I b ∧ CellsAt w b o vs ∧ Ones vs ∧ DRelL w I cs vs
  | .agg cs, v => ∃ vs : List Value, v = .agg vs.toArray ∧ Ones vs ∧ VRelL w I L cs vs
  | .fn f caps, v => ∃ vs : List Value, v = .func (.func f) #[] vs.toArray ∧ VRelL w I L caps vs
  | .tup cs, v => ∃ vs : List Value, v = .tuple vs.toArray ∧ VRelL w I L cs vs
  | .mp id, v => ∃ r, L[id]? = some (.m r) ∧ v = .map (some r)
  | .so id k off n, v => ∃ l hd c, L[id]? = some l ∧ v = .slice hd n c ∧ n ≤ c ∧ (n = 0 ∨ ∃ b cap, l = .a (some b) cap ∧ hd = some ⟨b, off * k, none⟩ ∧ cap = off + c)
  | .sc id n c, v => ∃ l hd, L[id]? = some l ∧ l.hdr = some (hd, c) ∧ v = .slice hd n c
  | .dead, _ => True
def VRelL (w : World) (I : Nat → Prop) (L : List Lay) : List FV → List Value → Prop
  | [], vs => vs = []
  | c :: cs, vs => ∃ v r, vs = v :: r ∧ VRel w I L c v ∧ VRelL w I L cs r
end

def ORel (w : World) (I : Nat → Prop) (L : List Lay) : Ob → Lay → Prop
  | .cells t cs, l => ∃ b, ∃ vs : List Value, l = .c b ∧ w.heap[b]? = some (.cells vs.toArray t (0, 0)) ∧ Ones vs ∧ VRelL w I L cs vs
  | .arr e k xs, l => (∃ base cap vs, l = .a base cap ∧ w.ownsRow 0 e k (.slice (Lay.head base) xs.length cap) xs.length vs ∧ DRelR w I k xs vs) ∨ (∃ hd, l = .z hd ∧ xs = [])
  | .frz k xs, l => ∃ hd cap, l.hdr = some (hd, cap) ∧ DRel w I (.list k xs) (.slice hd xs.length cap)
  | .map ks es, l => ∃ r ents clock, l = .m r ∧ w.heap[r]? = some (.map ents clock) ∧ DRelL w I ks (ents.toList.map (·.key)) ∧ DRelL w I es (ents.toList.map (·.val))
  | .fmap ks es, l => ∃ r, l = .m r ∧ DRel w I (.map ks es) (.map (some r))
  | .gone, _ => True

/-- The blocks that an object may write. -/
def own : Ob → Lay → List Nat
  | .cells _ _, .c b => [b]
  | .arr _ _ _, .a (some b) _ => [b]
  | .map _ _, .m r => [r]
  | _, _ => []
def owns : List Ob → List Lay → List Nat
  | o :: S, l :: L => own o l ++ owns S L
  | _, _ => []

/-! ### What holds of more worlds -/

theorem cellsAt_of_block {w w' : World} {b o : Nat} {vs : List Value} (h : w'.heap[b]? = w.heap[b]?) (hc : CellsAt w b o vs) : CellsAt w' b o vs :=
  fun j v hv => (World.cell?_of_block (a := ⟨b, o + j, none⟩) h).trans (hc j v hv)

section
variable {w w' : World} {I I' : Nat → Prop}
mutual
theorem DRel.mono (hw : ∀ b, I b → w'.heap[b]? = w.heap[b]?) (hI : ∀ b, I b → I' b) : ∀ (x : D) (v : Value), DRel w I x v → DRel w' I' x v
  | .bool _, v, h => by simpa [DRel] using h
  | .int _ _, v, h => by simpa [DRel] using h
  | .str _, v, h => by simpa [DRel] using h
  | .flt _ _, v, h => by simpa [DRel] using h
  | .cpx _ _ _, v, h => by simpa [DRel] using h
  | .nil, v, h => by simpa [DRel] using h
  | .list k xs, v, h => by
    simp only [DRel] at h ⊢
    obtain ⟨base, c, hv, hle, h⟩ := h
    refine ⟨base, c, hv, hle, ?_⟩
    rcases h with h | ⟨b, o, vs, hb, hi, hc, hr⟩
    · exact .inl h
    · exact .inr ⟨b, o, vs, hb, hI b hi, cellsAt_of_block (hw b hi) hc, DRelR.mono hw hI k xs vs hr⟩
  | .agg cs, v, h => by
    simp only [DRel] at h ⊢
    obtain ⟨vs, hv, ho, h⟩ := h
    exact ⟨vs, hv, ho, DRelL.mono hw hI cs vs h⟩
  | .nilp, v, h => by simpa [DRel] using h
  | .nili, v, h => by simpa [DRel] using h
  | .any, v, h => by simpa [DRel] using h
  | .nilm, v, h => by simpa [DRel] using h
  | .map ks es, v, h => by
    simp only [DRel] at h ⊢
    obtain ⟨r, ents, clock, hv, hi, hr, h1, h2⟩ := h
    exact ⟨r, ents, clock, hv, hI r hi, (hw r hi).trans hr, DRelL.mono hw hI ks _ h1, DRelL.mono hw hI es _ h2⟩
theorem DRelL.mono (hw : ∀ b, I b → w'.heap[b]? = w.heap[b]?) (hI : ∀ b, I b → I' b) : ∀ (cs : List D) (vs : List Value), DRelL w I cs vs → DRelL w' I' cs vs
  | [], vs, h => by simpa [DRelL] using h
  | c :: cs, vs, h => by
    simp only [DRelL] at h ⊢
    obtain ⟨v, r, hv, h1, h2⟩ := h
    exact ⟨v, r, hv, DRel.mono hw hI c v h1, DRelL.mono hw hI cs r h2⟩
theorem DRelR.mono (hw : ∀ b, I b → w'.heap[b]? = w.heap[b]?) (hI : ∀ b, I b → I' b) : ∀ (k : Nat) (cs : List D) (vs : List Value), DRelR w I k cs vs → DRelR w' I' k cs vs
  | k, [], vs, h => by simpa [DRelR] using h
  | k, c :: cs, vs, h => by
    simp only [DRelR] at h ⊢
    obtain ⟨v, r, hv, hk, h1, h2⟩ := h
    exact ⟨v, r, hv, hk, DRel.mono hw hI c v h1, DRelR.mono hw hI k cs r h2⟩
end

variable {L L' : List Lay}
mutual
theorem VRel.mono (hw : ∀ b, I b → w'.heap[b]? = w.heap[b]?) (hI : ∀ b, I b → I' b) (hL : ∀ (i : Nat) (l : Lay), L[i]? = some l → L'[i]? = some l) :
    ∀ (x : FV) (v : Value), VRel w I L x v → VRel w' I' L' x v
  | .d x, v, h => by simp only [VRel] at h ⊢; exact DRel.mono hw hI x v h
  | .ref id off, v, h => by
    simp only [VRel] at h ⊢
    obtain ⟨b, hb, hv⟩ := h
    exact ⟨b, hL _ _ hb, hv⟩
  | .sl id n, v, h => by
    simp only [VRel] at h ⊢
    obtain ⟨l, b, c, hb, hv⟩ := h
    exact ⟨l, b, c, hL _ _ hb, hv⟩
  | .er id k i off, v, h => by
    simp only [VRel] at h ⊢
    obtain ⟨b, c, hb, hv⟩ := h
    exact ⟨b, c, hL _ _ hb, hv⟩
  | .dp cs, v, h => by
    simp only [VRel] at h ⊢
    obtain ⟨b, o, vs, hv, hi, hc, ho, hr⟩ := h
    exact ⟨b, o, vs, hv, hI b hi, cellsAt_of_block (hw b hi) hc, ho, DRelL.mono hw hI cs vs hr⟩
  | .agg cs, v, h => by
    simp only [VRel] at h ⊢
    obtain ⟨vs, hv, ho, hr⟩ := h
    exact ⟨vs, hv, ho, VRelL.mono hw hI hL cs vs hr⟩
  | .fn f cs, v, h => by
    simp only [VRel] at h ⊢
    obtain ⟨vs, hv, hr⟩ := h
    exact ⟨vs, hv, VRelL.mono hw hI hL cs vs hr⟩
  | .tup cs, v, h => by
    simp only [VRel] at h ⊢
    obtain ⟨vs, hv, hr⟩ := h
    exact ⟨vs, hv, VRelL.mono hw hI hL cs vs hr⟩
  | .mp id, v, h => by
    simp only [VRel] at h ⊢
    obtain ⟨r, hb, hv⟩ := h
    exact ⟨r, hL _ _ hb, hv⟩
  | .so id k off n, v, h => by
    simp only [VRel] at h ⊢
    obtain ⟨l, hd, c, hl, hv⟩ := h
    exact ⟨l, hd, c, hL _ _ hl, hv⟩
  | .sc id n c, v, h => by
    simp only [VRel] at h ⊢
    obtain ⟨l, hd, hl, hv⟩ := h
    exact ⟨l, hd, hL _ _ hl, hv⟩
  | .dead, v, h => by simp only [VRel]
theorem VRelL.mono (hw : ∀ b, I b → w'.heap[b]? = w.heap[b]?) (hI : ∀ b, I b → I' b) (hL : ∀ (i : Nat) (l : Lay), L[i]? = some l → L'[i]? = some l) :
    ∀ (xs : List FV) (vs : List Value), VRelL w I L xs vs → VRelL w' I' L' xs vs
  | [], vs, h => by simpa [VRelL] using h
  | c :: cs, vs, h => by
    simp only [VRelL] at h ⊢
    obtain ⟨v, r, hv, h1, h2⟩ := h
    exact ⟨v, r, hv, VRel.mono hw hI hL c v h1, VRelL.mono hw hI hL cs r h2⟩
end

theorem ORel.mono (hw : ∀ b, I b → w'.heap[b]? = w.heap[b]?) (hI : ∀ b, I b → I' b) (hL : ∀ (i : Nat) (l : Lay), L[i]? = some l → L'[i]? = some l)
    {o : Ob} {l : Lay} (ho : ∀ b ∈ own o l, w'.heap[b]? = w.heap[b]?) (h : ORel w I L o l) : ORel w' I' L' o l := by
  cases o with
  | cells t cs =>
    obtain ⟨b, vs, rfl, hb, h1, h2⟩ := h
    exact ⟨b, vs, rfl, (ho b (by simp [own])).trans hb, h1, VRelL.mono hw hI hL cs vs h2⟩
  | arr e k xs =>
    rcases h with ⟨base, cap, vs, rfl, hr, h2⟩ | ⟨hd, rfl, h2⟩
    rotate_left
    · exact .inr ⟨hd, rfl, h2⟩
    refine .inl ⟨base, cap, vs, rfl, ⟨hr.1, ?_⟩, DRelR.mono hw hI k xs vs h2⟩
    rcases hr.2 with hn | ⟨g, cp, cur, he, hb, hg, rest⟩
    · exact .inl hn
    · refine .inr ⟨g, cp, cur, he, hb, ?_, rest⟩
      cases base with
      | none => simp [Lay.head] at he
      | some b =>
        simp [Lay.head] at he
        obtain ⟨rfl, rfl⟩ := he
        exact (ho b (by simp [own])).trans hg
  | frz k xs =>
    obtain ⟨base, cap, hl, hr⟩ := h
    exact ⟨base, cap, hl, DRel.mono hw hI _ _ hr⟩
  | map ks es =>
    obtain ⟨r, ents, clock, rfl, hb, h1, h2⟩ := h
    exact ⟨r, ents, clock, rfl, (ho r (by simp [own])).trans hb, DRelL.mono hw hI _ _ h1, DRelL.mono hw hI _ _ h2⟩
  | fmap ks es =>
    obtain ⟨r, rfl, hr⟩ := h
    exact ⟨r, rfl, DRel.mono hw hI _ _ hr⟩
  | gone => trivial
end

/-! ### Shapes -/

theorem DRel.ones {w : World} {I : Nat → Prop} {x : D} {v : Value} (h : DRel w I x v) : Ones v.cells.toList := by
  cases x <;> simp only [DRel] at h
  case agg => obtain ⟨vs, rfl, ho, _⟩ := h; simpa [Value.cells] using ho
  case list => obtain ⟨b, c, rfl, _⟩ := h; simp [Value.cells, Ones, Value.oneCell']
  case any => obtain ⟨t, u, rfl⟩ := h; simp [Value.cells, Ones, Value.oneCell']
  case map => obtain ⟨r, e, c, rfl, _⟩ := h; simp [Value.cells, Ones, Value.oneCell']
  all_goals (subst h; simp [Value.cells, Ones, Value.oneCell'])

theorem DRel.cells {w : World} {I : Nat → Prop} {x : D} {v : Value} (h : DRel w I x v) : DRelL w I x.cs v.cells.toList := by
  cases x with
  | agg cs =>
    simp only [DRel] at h
    obtain ⟨vs, rfl, _, hr⟩ := h
    simpa [D.cs, Value.cells] using hr
  | _ =>
    have hv : v.cells.toList = [v] := by
      simp only [DRel] at h
      first
        | (subst h; rfl)
        | (obtain ⟨_, _, rfl, _⟩ := h; rfl)
        | (obtain ⟨_, _, rfl⟩ := h; rfl)
        | (obtain ⟨_, _, _, rfl, _⟩ := h; rfl)
    simp only [D.cs, DRelL]
    exact ⟨v, [], hv, h, rfl⟩

theorem DRelL.length {w : World} {I : Nat → Prop} : ∀ {cs : List D} {vs : List Value}, DRelL w I cs vs → vs.length = cs.length
  | [], vs, h => by simp only [DRelL] at h; subst h; rfl
  | c :: cs, vs, h => by
    simp only [DRelL] at h
    obtain ⟨v, r, rfl, _, h2⟩ := h
    simp [DRelL.length h2]

theorem DRelL.get {w : World} {I : Nat → Prop} : ∀ {cs : List D} {vs : List Value}, DRelL w I cs vs → ∀ (i : Nat) (c : D), cs[i]? = some c → ∃ v, vs[i]? = some v ∧ DRel w I c v
  | [], vs, h, i, c, hc => by simp at hc
  | c :: cs, vs, h, i, x, hx => by
    simp only [DRelL] at h
    obtain ⟨v, r, rfl, h1, h2⟩ := h
    cases i with
    | zero => simp at hx; subst hx; exact ⟨v, rfl, h1⟩
    | succ i => simpa using h2.get i x (by simpa using hx)

theorem DRelL.drop {w : World} {I : Nat → Prop} : ∀ {cs : List D} {vs : List Value} (n : Nat), DRelL w I cs vs → DRelL w I (cs.drop n) (vs.drop n)
  | _, _, 0, h => by simpa using h
  | [], vs, n + 1, h => by simp only [DRelL] at h; subst h; simp [DRelL]
  | c :: cs, vs, n + 1, h => by
    simp only [DRelL] at h
    obtain ⟨v, r, rfl, _, h2⟩ := h
    simpa using h2.drop n

theorem DRelL.take {w : World} {I : Nat → Prop} : ∀ {cs : List D} {vs : List Value} (n : Nat), DRelL w I cs vs → DRelL w I (cs.take n) (vs.take n)
  | _, _, 0, _ => by simp [DRelL]
  | [], vs, n + 1, h => by simp only [DRelL] at h; subst h; simp [DRelL]
  | c :: cs, vs, n + 1, h => by
    simp only [DRelL] at h
    obtain ⟨v, r, rfl, h1, h2⟩ := h
    simp only [List.take_succ_cons, DRelL]
    exact ⟨v, r.take n, rfl, h1, h2.take n⟩

theorem VRelL.length {w : World} {I : Nat → Prop} {L : List Lay} : ∀ {cs : List FV} {vs : List Value}, VRelL w I L cs vs → vs.length = cs.length
  | [], vs, h => by simp only [VRelL] at h; subst h; rfl
  | c :: cs, vs, h => by
    simp only [VRelL] at h
    obtain ⟨v, r, rfl, _, h2⟩ := h
    simp [VRelL.length h2]

theorem VRelL.get {w : World} {I : Nat → Prop} {L : List Lay} : ∀ {cs : List FV} {vs : List Value}, VRelL w I L cs vs → ∀ (i : Nat) (c : FV), cs[i]? = some c → ∃ v, vs[i]? = some v ∧ VRel w I L c v
  | [], vs, h, i, c, hc => by simp at hc
  | c :: cs, vs, h, i, x, hx => by
    simp only [VRelL] at h
    obtain ⟨v, r, rfl, h1, h2⟩ := h
    cases i with
    | zero => simp at hx; subst hx; exact ⟨v, rfl, h1⟩
    | succ i => simpa using h2.get i x (by simpa using hx)

theorem VRelL.drop {w : World} {I : Nat → Prop} {L : List Lay} : ∀ {cs : List FV} {vs : List Value} (n : Nat), VRelL w I L cs vs → VRelL w I L (cs.drop n) (vs.drop n)
  | _, _, 0, h => by simpa using h
  | [], vs, n + 1, h => by simp only [VRelL] at h; subst h; simp [VRelL]
  | c :: cs, vs, n + 1, h => by
    simp only [VRelL] at h
    obtain ⟨v, r, rfl, _, h2⟩ := h
    simpa using h2.drop n

theorem VRelL.take {w : World} {I : Nat → Prop} {L : List Lay} : ∀ {cs : List FV} {vs : List Value} (n : Nat), VRelL w I L cs vs → VRelL w I L (cs.take n) (vs.take n)
  | _, _, 0, _ => by simp [VRelL]
  | [], vs, n + 1, h => by simp only [VRelL] at h; subst h; simp [VRelL]
  | c :: cs, vs, n + 1, h => by
    simp only [VRelL] at h
    obtain ⟨v, r, rfl, h1, h2⟩ := h
    simp only [List.take_succ_cons, VRelL]
    exact ⟨v, r.take n, rfl, h1, h2.take n⟩

theorem VRelL.set {w : World} {I : Nat → Prop} {L : List Lay} : ∀ {cs : List FV} {vs : List Value} (n : Nat) {x : FV} {v : Value}, VRelL w I L cs vs → VRel w I L x v → VRelL w I L (cs.set n x) (vs.set n v)
  | [], vs, n, _, _, h, _ => by simp only [VRelL] at h; subst h; simp [VRelL]
  | c :: cs, vs, n, x, v, h, hx => by
    simp only [VRelL] at h
    obtain ⟨u, r, rfl, h1, h2⟩ := h
    cases n with
    | zero => simp only [List.set_cons_zero, VRelL]; exact ⟨v, r, rfl, hx, h2⟩
    | succ n => simp only [List.set_cons_succ, VRelL]; exact ⟨u, r.set n v, rfl, h1, h2.set n hx⟩

theorem VRelL.append {w : World} {I : Nat → Prop} {L : List Lay} : ∀ {cs ds : List FV} {vs us : List Value}, VRelL w I L cs vs → VRelL w I L ds us → VRelL w I L (cs ++ ds) (vs ++ us)
  | [], ds, vs, us, h, h' => by simp only [VRelL] at h; subst h; simpa using h'
  | c :: cs, ds, vs, us, h, h' => by
    simp only [VRelL] at h
    obtain ⟨v, r, rfl, h1, h2⟩ := h
    simp only [List.cons_append, VRelL]
    exact ⟨v, r ++ us, rfl, h1, h2.append h'⟩

/-- All of them data. -/
def allD : List FV → Option (List D)
  | [] => some []
  | .d x :: r => (allD r).map (x :: ·)
  | _ :: _ => none

theorem VRelL.allD {w : World} {I : Nat → Prop} {L : List Lay} : ∀ {cs : List FV} {vs : List Value} {ds : List D}, VRelL w I L cs vs → allD cs = some ds → DRelL w I ds vs
  | [], vs, ds, h, hd => by simp only [VRelL] at h; subst h; simp [Pay.allD] at hd; subst hd; simp [DRelL]
  | c :: cs, vs, ds, h, hd => by
    simp only [VRelL] at h
    obtain ⟨v, r, rfl, h1, h2⟩ := h
    cases c <;> simp [Pay.allD] at hd
    obtain ⟨ds', hd', rfl⟩ := hd
    simp only [VRel] at h1
    simp only [DRelL]
    exact ⟨v, r, rfl, h1, h2.allD hd'⟩

theorem DRelL.toV {w : World} {I : Nat → Prop} {L : List Lay} : ∀ {cs : List D} {vs : List Value}, DRelL w I cs vs → VRelL w I L (cs.map .d) vs
  | [], vs, h => by simp only [DRelL] at h; subst h; simp [VRelL]
  | c :: cs, vs, h => by
    simp only [DRelL] at h
    obtain ⟨v, r, rfl, h1, h2⟩ := h
    simp only [List.map_cons, VRelL]
    exact ⟨v, r, rfl, by simpa only [VRel] using h1, h2.toV⟩

/-! ### Rows of elements -/

theorem DRelR.length {w : World} {I : Nat → Prop} {k : Nat} : ∀ {xs : List D} {vs : List Value}, DRelR w I k xs vs → vs.length = xs.length * k
  | [], vs, h => by simp only [DRelR] at h; subst h; simp
  | x :: xs, vs, h => by
    simp only [DRelR] at h
    obtain ⟨v, r, rfl, hk, _, h2⟩ := h
    simp [hk, h2.length, Nat.succ_mul, Nat.add_comm]

theorem DRelR.get {w : World} {I : Nat → Prop} {k : Nat} : ∀ {xs : List D} {vs : List Value}, DRelR w I k xs vs → ∀ (i : Nat) (x : D), xs[i]? = some x →
    ∃ v, DRel w I x v ∧ v.cells.size = k ∧ (vs.drop (i * k)).take k = v.cells.toList
  | [], vs, h, i, c, hc => by simp at hc
  | y :: xs, vs, h, i, x, hx => by
    simp only [DRelR] at h
    obtain ⟨v, r, rfl, hk, h1, h2⟩ := h
    cases i with
    | zero =>
      simp at hx; subst hx
      exact ⟨v, h1, hk, by simp [← hk]⟩
    | succ i =>
      obtain ⟨u, hu, hku, hd⟩ := h2.get i x (by simpa using hx)
      refine ⟨u, hu, hku, ?_⟩
      rw [← hd, Nat.succ_mul, Nat.add_comm, ← List.drop_drop]
      congr 2
      rw [← hk, ← Array.length_toList, List.drop_left]

theorem DRelR.append {w : World} {I : Nat → Prop} {k : Nat} : ∀ {xs ys : List D} {vs us : List Value}, DRelR w I k xs vs → DRelR w I k ys us → DRelR w I k (xs ++ ys) (vs ++ us)
  | [], ys, vs, us, h, h' => by simp only [DRelR] at h; subst h; simpa using h'
  | x :: xs, ys, vs, us, h, h' => by
    simp only [DRelR] at h
    obtain ⟨v, r, rfl, hk, h1, h2⟩ := h
    simp only [List.cons_append, DRelR]
    exact ⟨v, r ++ us, by simp, hk, h1, h2.append h'⟩

theorem DRelR.take {w : World} {I : Nat → Prop} {k : Nat} : ∀ {xs : List D} {vs : List Value} (n : Nat), DRelR w I k xs vs → DRelR w I k (xs.take n) (vs.take (n * k))
  | _, _, 0, _ => by simp [DRelR]
  | [], vs, n + 1, h => by simp only [DRelR] at h; subst h; simp [DRelR]
  | x :: xs, vs, n + 1, h => by
    simp only [DRelR] at h
    obtain ⟨v, r, rfl, hk, h1, h2⟩ := h
    simp only [List.take_succ_cons, DRelR]
    refine ⟨v, r.take (n * k), ?_, hk, h1, h2.take n⟩
    rw [List.take_append, Array.length_toList, hk, Nat.succ_mul, Nat.add_sub_cancel, List.take_of_length_le (by simp [hk])]

theorem DRelR.drop {w : World} {I : Nat → Prop} {k : Nat} : ∀ {xs : List D} {vs : List Value} (n : Nat), DRelR w I k xs vs → DRelR w I k (xs.drop n) (vs.drop (n * k))
  | _, _, 0, h => by simpa using h
  | [], vs, n + 1, h => by simp only [DRelR] at h; subst h; simp [DRelR]
  | x :: xs, vs, n + 1, h => by
    simp only [DRelR] at h
    obtain ⟨v, r, rfl, hk, h1, h2⟩ := h
    have := h2.drop n
    rw [List.drop_succ_cons, Nat.succ_mul, Nat.add_comm (n * k) k, ← List.drop_drop]
    have e : (v.cells.toList ++ r).drop k = r := by rw [← hk, ← Array.length_toList, List.drop_left]
    rw [e]; exact this

/-- An element is exchanged. -/
theorem DRelR.set {w : World} {I : Nat → Prop} {k : Nat} : ∀ {xs : List D} {vs : List Value} (i : Nat) {x : D} {v : Value}, DRelR w I k xs vs → i < xs.length → DRel w I x v → v.cells.size = k →
    DRelR w I k (xs.set i x) (vs.take (i * k) ++ v.cells.toList ++ vs.drop (i * k + k))
  | [], vs, i, x, v, h, hi, _, _ => by simp at hi
  | y :: xs, vs, i, x, v, h, hi, hx, hk => by
    simp only [DRelR] at h
    obtain ⟨u, r, rfl, hku, h1, h2⟩ := h
    cases i with
    | zero =>
      simp only [List.set_cons_zero, DRelR]
      refine ⟨v, r, ?_, hk, hx, h2⟩
      simp only [Nat.zero_mul, List.take_zero, List.nil_append, Nat.zero_add]
      congr 1
      rw [← hku, ← Array.length_toList, List.drop_left]
    | succ i =>
      have := h2.set i (by simpa using hi) hx hk
      simp only [List.set_cons_succ, DRelR]
      refine ⟨u, _, ?_, hku, h1, this⟩
      have e1 : (i + 1) * k = u.cells.toList.length + i * k := by rw [Array.length_toList, hku, Nat.succ_mul, Nat.add_comm]
      rw [e1, List.take_length_add_append, Nat.add_assoc, List.drop_length_add_append]
      simp [List.append_assoc]

end Go.Proofs.Ytaobnhenjldjeaa.Pay
/- States of a frame over abstract data, and rules of reasoning over them: code, regions, calls. No statement of the seed is proved here. -/
namespace Go.Proofs.Ytaobnhenjldjeaa.Pay
open Go Go.RowKit
set_option linter.unusedVariables false
set_option linter.unusedSimpArgs false

/-- A frame's state: what its slots hold (the first entry counts), its objects, how many slots, how many objects came in. -/
structure St where
  env : List (Nat × FV)
  S : List Ob
  nt : Nat
  pin : Nat

def get : List (Nat × FV) → Nat → Option FV
  | [], _ => none
  | (s, v) :: r, t => if s = t then some v else get r t

/-- A state as it stands in a world. -/
structure SR (w : World) (I : Nat → Prop) (L : List Lay) (s : St) (a : Act) : Prop where
  env : ∀ t x, get s.env t = some x → VRel w I L x (a.tmps.getD t undef)
  nt : a.tmps.size = s.nt
  len : L.length = s.S.length
  obs : ∀ (i : Nat) (o : Ob) (l : Lay), s.S[i]? = some o → L[i]? = some l → ORel w I L o l
  nodup : (owns s.S L).Nodup
  sep : ∀ b ∈ owns s.S L, ¬ I b ∧ b < w.heap.size
  imm : ∀ b, I b → b < w.heap.size
  defers : a.defers = []

/-- How a world may go on: A: the blocks that may be written. -/
structure Evo (w : World) (I : Nat → Prop) (A : List Nat) (w' : World) (I' : Nat → Prop) (A' : List Nat) : Prop where
  os : w'.os = w.os
  tape : w'.tape = w.tape
  output : w'.output = w.output
  size : w.heap.size ≤ w'.heap.size
  keep : ∀ b, b < w.heap.size → b ∉ A → w'.heap[b]? = w.heap[b]?
  imm : ∀ b, I b → I' b
  immNew : ∀ b, I' b → I b ∨ b ∈ A ∨ w.heap.size ≤ b
  own : ∀ b ∈ A', b ∈ A ∨ w.heap.size ≤ b

theorem Evo.refl (w : World) (I : Nat → Prop) (A : List Nat) : Evo w I A w I A :=
  ⟨rfl, rfl, rfl, Nat.le_refl _, fun _ _ _ => rfl, fun _ h => h, fun _ h => .inl h, fun _ h => .inl h⟩

theorem Evo.trans {w w1 w2 : World} {I I1 I2 : Nat → Prop} {A A1 A2 : List Nat} (h : Evo w I A w1 I1 A1) (k : Evo w1 I1 A1 w2 I2 A2) : Evo w I A w2 I2 A2 where
  os := k.os.trans h.os
  tape := k.tape.trans h.tape
  output := k.output.trans h.output
  size := Nat.le_trans h.size k.size
  keep := fun b hb hA => (k.keep b (Nat.lt_of_lt_of_le hb h.size) (fun h1 => by
    rcases h.own b h1 with h2 | h2
    · exact hA h2
    · omega)).trans (h.keep b hb hA)
  imm := fun b hb => k.imm b (h.imm b hb)
  immNew := fun b hb => by
    rcases k.immNew b hb with h1 | h1 | h1
    · exact h.immNew b h1
    · rcases h.own b h1 with h2 | h2
      · exact .inr (.inl h2)
      · exact .inr (.inr h2)
    · exact .inr (.inr (Nat.le_trans h.size h1))
  own := fun b hb => by
    rcases k.own b hb with h1 | h1
    · exact h.own b h1
    · exact .inr (Nat.le_trans h.size h1)

/-- A step from a state to a state. -/
structure Step (w : World) (I : Nat → Prop) (L : List Lay) (s : St) (w' : World) (I' : Nat → Prop) (L' : List Lay) (s' : St) : Prop where
  evo : Evo w I (owns s.S L) w' I' (owns s'.S L')
  pin : s'.pin = s.pin
  lay : ∀ i : Nat, i < s.pin → L'[i]? = L[i]?

theorem Step.refl (w : World) (I : Nat → Prop) (L : List Lay) (s : St) : Step w I L s w I L s := ⟨Evo.refl _ _ _, rfl, fun _ _ => rfl⟩
theorem Step.trans {w w1 w2 : World} {I I1 I2 : Nat → Prop} {L L1 L2 : List Lay} {s s1 s2 : St} (h : Step w I L s w1 I1 L1 s1) (k : Step w1 I1 L1 s1 w2 I2 L2 s2) : Step w I L s w2 I2 L2 s2 :=
  ⟨h.evo.trans k.evo, k.pin.trans h.pin, fun i hi => (k.lay i (h.pin ▸ hi)).trans (h.lay i hi)⟩

def Post (w : World) (I : Nat → Prop) (L : List Lay) (s : St) (Q : Exit → St → Prop) (e : Exit) (a' : Act) (w' : World) : Prop :=
  ∃ s' I' L', Q e s' ∧ SR w' I' L' s' a' ∧ Step w I L s w' I' L' s'

theorem Post.from {w w1 : World} {I I1 : Nat → Prop} {L L1 : List Lay} {s s1 : St} {Q : Exit → St → Prop} {e : Exit} {a' : Act} {w' : World}
    (h : Step w I L s w1 I1 L1 s1) (p : Post w1 I1 L1 s1 Q e a' w') : Post w I L s Q e a' w' := by
  obtain ⟨s', I', L', q, r, t⟩ := p
  exact ⟨s', I', L', q, r, h.trans t⟩

def WpC (P : Program) (c : Code) (s : St) (Q : Exit → St → Prop) : Prop :=
  ∀ w I L a, SR w I L s a → c.wp P (Post w I L s Q) a w

def WpO (P : Program) (all : Array Oper) (rest : List Oper) (s : St) (Q : Exit → St → Prop) : Prop :=
  ∀ w I L a, SR w I L s a → wpList P all (Post w I L s Q) rest a w

theorem upon_mono {P : Program} {o : Oper} {a : Act} {n n' : Act → World → Prop} {Q Q' : Exit → Act → World → Prop} (hn : ∀ a w, n a w → n' a w) (hQ : ∀ e a w, Q e a w → Q' e a w)
    {r : Result Next} (h : o.upon P a n Q r) : o.upon P a n' Q' r := by
  unfold Oper.upon at h ⊢
  split at h
  · exact hn _ _ h
  · exact hn _ _ h
  · exact hn _ _ h
  · exact h.mono fun e w hw => by
      cases e with
      | returned v => exact hn _ _ hw
      | panicked c => exact hQ _ _ _ hw
      | outgrown => obtain ⟨a₀, w₀, q⟩ := hw; exact ⟨a₀, w₀, hQ _ _ _ q⟩
  · exact h.mono fun v w hw => hn _ _ hw
  · exact hQ _ _ _ h
  · exact h.elim

theorem wpList_mono {P : Program} {all : Array Oper} {Q Q' : Exit → Act → World → Prop} (hQ : ∀ e a w, Q e a w → Q' e a w) : ∀ (l : List Oper) (a : Act) (w : World), wpList P all Q l a w → wpList P all Q' l a w
  | [], a, w, h => hQ _ _ _ h
  | o :: l, a, w, h => by
    unfold wpList at h ⊢
    split
    · rename_i hw
      rw [if_pos hw] at h
      rcases h with h | ⟨h1, a₀, w₀, h2⟩
      · exact .inl (upon_mono (wpList_mono hQ l) hQ h)
      · exact .inr ⟨h1, a₀, w₀, hQ _ _ _ h2⟩
    · rename_i hw
      rw [if_neg hw] at h
      exact wpList_mono hQ l _ _ h

theorem WpC.mono {P : Program} {c : Code} {s : St} {Q Q' : Exit → St → Prop} (h : WpC P c s Q) (hq : ∀ e s, Q e s → Q' e s) : WpC P c s Q' :=
  fun w I L a hs => wp_mono (h w I L a hs) fun _ _ _ ⟨s', I', L', q, r⟩ => ⟨s', I', L', hq _ _ q, r⟩
theorem WpO.mono {P : Program} {all : Array Oper} {rest : List Oper} {s : St} {Q Q' : Exit → St → Prop} (h : WpO P all rest s Q) (hq : ∀ e s, Q e s → Q' e s) : WpO P all rest s Q' :=
  fun w I L a hs => wpList_mono (fun _ _ _ ⟨s', I', L', q, r⟩ => ⟨s', I', L', hq _ _ q, r⟩) _ _ _ (h w I L a hs)

/-! ### Control -/
section
variable {P : Program} {s : St} {Q : Exit → St → Prop}

theorem post_here {w : World} {I : Nat → Prop} {L : List Lay} {a : Act} {e : Exit} (hs : SR w I L s a) (h : Q e s) : Post w I L s Q e a w := ⟨s, I, L, h, hs, Step.refl _ _ _ _⟩

theorem WpC.skip (h : Q .normal s) : WpC P .skip s Q := fun _ _ _ _ hs => wp_skip (post_here hs h)
theorem WpC.label {l : Nat} (h : Q .normal s) : WpC P (.label l) s Q := fun _ _ _ _ hs => wp_label (post_here hs h)
theorem WpC.exit {id : Nat} (h : Q (.exit id) s) : WpC P (.exit id) s Q := fun _ _ _ _ hs => wp_exit (post_here hs h)
theorem WpC.goto {l : Nat} (h : Q (.goto l) s) : WpC P (.goto l) s Q := fun _ _ _ _ hs => wp_goto (post_here hs h)
theorem WpC.ret (h : Q .ret s) : WpC P .ret s Q := fun _ _ _ _ hs => wp_ret (post_here hs h)

def seqQ (P : Program) (y : Code) (Q : Exit → St → Prop) : Exit → St → Prop
  | .normal, s => WpC P y s Q
  | e, s => Q e s

theorem WpC.seq {x y : Code} (h : WpC P x s (seqQ P y Q)) : WpC P (.seq x y) s Q := fun w I L a hs => by
  refine wp_seq (wp_mono (h w I L a hs) fun e a1 w1 hp => ?_)
  obtain ⟨s1, I1, L1, q, r, t⟩ := hp
  cases e with
  | normal => exact wp_mono (q w1 I1 L1 a1 r) fun _ _ _ p => p.from t
  | _ => exact ⟨s1, I1, L1, q, r, t⟩

def evB (s : St) : Operand → Option Bool
  | .tmp t => match get s.env t with
    | some (.d (.bool b)) => some b
    | _ => none
  | .const (.bool b) => some b
  | _ => none

theorem SR.evB {w : World} {I : Nat → Prop} {L : List Lay} {a : Act} (hs : SR w I L s a) {c : Operand} {b : Bool} (h : evB s c = some b) : a.eval c = .bool b := by
  unfold Pay.evB at h
  split at h
  · split at h
    · rename_i heq
      have := hs.env _ _ heq
      simp only [VRel, DRel] at this
      simp at h; subst h
      simpa [Act.eval] using this
    · cases h
  · simp at h; subst h; rfl
  · cases h

theorem WpC.cond {c : Operand} {x y : Code} (b : Bool) (hc : Pay.evB s c = some b) (h : WpC P (if b = true then x else y) s Q) : WpC P (.cond c x y) s Q := fun w I L a hs =>
  wp_cond (hs.evB hc) (h w I L a hs)
theorem WpC.condT {c : Operand} {x y : Code} (hc : Pay.evB s c = some true) (h : WpC P x s Q) : WpC P (.cond c x y) s Q := WpC.cond true hc (by simpa using h)
theorem WpC.condF {c : Operand} {x y : Code} (hc : Pay.evB s c = some false) (h : WpC P y s Q) : WpC P (.cond c x y) s Q := WpC.cond false hc (by simpa using h)
theorem WpC.condP {c : Operand} {x y : Code} (b : Bool) (hc : Pay.evB s c = some b) (ht : b = true → WpC P x s Q) (hf : b = false → WpC P y s Q) : WpC P (.cond c x y) s Q := by
  cases b
  · exact .condF hc (hf rfl)
  · exact .condT hc (ht rfl)
/-- A test of a decidable proposition. -/
theorem WpC.condD {c : Operand} {x y : Code} (p : Prop) [Decidable p] (hc : Pay.evB s c = some (decide p)) (ht : p → WpC P x s Q) (hf : ¬ p → WpC P y s Q) : WpC P (.cond c x y) s Q := by
  by_cases hp : p
  · exact .condT (by simpa [hp] using hc) (ht hp)
  · exact .condF (by simpa [hp] using hc) (hf hp)

def blockQ (id : Nat) (Q : Exit → St → Prop) : Exit → St → Prop
  | .exit id', s => if id' = id then Q .normal s else Q (.exit id') s
  | e, s => Q e s

theorem WpC.block {id : Nat} {c : Code} (h : WpC P c s (blockQ id Q)) : WpC P (.block id c) s Q := fun w I L a hs => by
  refine wp_block (wp_mono (h w I L a hs) fun e a1 w1 hp => ?_)
  obtain ⟨s1, I1, L1, q, r, t⟩ := hp
  cases e with
  | exit id' =>
    by_cases hid : id' = id
    · simp only [blockQ, hid, if_true] at q
      simp only [Exit.inBlock, hid, if_true]
      exact ⟨s1, I1, L1, q, r, t⟩
    · simp only [blockQ, hid, if_false] at q
      simp only [Exit.inBlock, hid, if_false]
      exact ⟨s1, I1, L1, q, r, t⟩
  | _ => exact ⟨s1, I1, L1, q, r, t⟩

/-- A loop: J n: what holds at its head when at most n rounds are left. -/
theorem WpC.loop {c : Code} (J : Nat → St → Prop) (n : Nat) (h0 : J n s)
    (hr : ∀ n s, J n s → WpC P c s (fun e s' => match e with | .normal => ∃ m, m < n ∧ J m s' | e => Q e s')) : WpC P (.loop c) s Q := by
  intro w I L a hs b k cs
  have key : ∀ n s1 w1 I1 L1 a1, J n s1 → SR w1 I1 L1 s1 a1 →
      ∃ e a' w', Post w1 I1 L1 s1 Q e a' w' ∧ Arrives P (lone (b.at a1 (.code c :: .inLoop c :: k)) cs w1) b k cs e a' w' := by
    intro n
    induction n using Nat.strongRecOn with
    | _ n ih =>
      intro s1 w1 I1 L1 a1 hj hs1
      obtain ⟨e, a2, w2, ⟨s2, I2, L2, q, r, t⟩, harr⟩ := hr n s1 hj w1 I1 L1 a1 hs1 b (.inLoop c :: k) cs
      cases e with
      | normal =>
        obtain ⟨m, hm, hj2⟩ := q
        obtain ⟨e3, a3, w3, p3, harr3⟩ := ih m hm s2 w2 I2 L2 a2 hj2 r
        exact ⟨e3, a3, w3, p3.from t, .of_steps (Steps.trans harr (.one step_inLoop)) harr3⟩
      | exit id => exact ⟨_, a2, w2, ⟨s2, I2, L2, q, r, t⟩, .pass (x := .inLoop c) rfl (fun _ _ => .inl (by simp)) harr⟩
      | goto l => exact ⟨_, a2, w2, ⟨s2, I2, L2, q, r, t⟩, .pass (x := .inLoop c) rfl (fun _ _ => .inl (by simp)) harr⟩
      | ret => exact ⟨_, a2, w2, ⟨s2, I2, L2, q, r, t⟩, .pass (x := .inLoop c) rfl (fun _ _ => .inl (by simp)) harr⟩
      | panic ch => exact ⟨_, a2, w2, ⟨s2, I2, L2, q, r, t⟩, .pass (x := .inLoop c) rfl (fun _ _ => .inl (by simp)) harr⟩
      | outgrown => exact ⟨_, a2, w2, ⟨s2, I2, L2, q, r, t⟩, .pass (x := .inLoop c) rfl (fun _ _ => .inl (by simp)) harr⟩
  obtain ⟨e, a', w', hp, harr⟩ := key n s w I L a h0 hs
  exact ⟨e, a', w', hp, .of_steps (.one step_loop) harr⟩
end
end Go.Proofs.Ytaobnhenjldjeaa.Pay
/- What an operation that turns no memory gives, over abstract data; and that it gives just that. No statement of the seed is proved here. -/
namespace Go.Proofs.Ytaobnhenjldjeaa.Pay
open Go Go.RowKit
set_option linter.unusedVariables false
set_option linter.unusedSimpArgs false

inductive TK where
  | int (k : IntKind)
  | bool
  | str
  | flt (k : FloatKind)
  | cpx (k : FloatKind)
  | slice (e : Nat)
  | struct (fs : List (Nat × Nat))
  | array (n e : Nat)
  | ptr (e : Nat)
  | map (k e : Nat)
  | iface
  | other

/-- What is known of a type: its kind, its cells, its bytes, its zero value's cells. -/
structure TI where
  kind : TK
  size : Nat
  bytes : Nat
  zero : List D

def TI.ag (i : TI) : Bool := match i.kind with
  | .struct _ | .array _ _ => true
  | _ => false

def ofLeaf : Value → Option D
  | .bool b => some (.bool b)
  | .int k n => some (.int k n)
  | .string s => some (.str s.data.toList)
  | .float k b => some (.flt k b)
  | .complex k a b => some (.cpx k a b)
  | .slice none 0 0 => some .nil
  | .pointer none => some .nilp
  | .nilIface => some .nili
  | .map none => some .nilm
  | _ => none

def ofLeaves : List Value → Option (List D)
  | [] => some []
  | v :: r => (ofLeaf v).bind fun x => (ofLeaves r).map (x :: ·)

def ofVal : Value → Option D
  | .agg cs => (ofLeaves cs.toList).map .agg
  | v => ofLeaf v

def TKOk (P : Program) (t : TypeId) : TK → Prop
  | .int k => P.underlying t = some (.int k)
  | .bool => P.underlying t = some .bool
  | .str => P.underlying t = some .string
  | .flt k => P.underlying t = some (.float k)
  | .cpx k => P.underlying t = some (.complex k)
  | .slice e => P.underlying t = some (.slice e)
  | .struct fs => ∃ a : Array Field, P.underlying t = some (.struct a) ∧ a.toList.map (fun f => (f.offset, f.type)) = fs
  | .array n e => P.underlying t = some (.array n e)
  | .ptr e => P.underlying t = some (.pointer e)
  | .map k e => P.underlying t = some (.map k e)
  | .iface => ∃ ms, P.underlying t = some (.interface ms)
  | .other => ∃ d, P.underlying t = some d ∧ (match d with | .struct _ | .array _ _ | .interface _ => False | _ => True)

structure TIOk (P : Program) (t : TypeId) (i : TI) : Prop where
  kind : TKOk P t i.kind
  info : ∃ j z, P.info? t = some j ∧ j.size = i.size ∧ j.bytes = i.bytes ∧ j.zero = some z ∧ ofLeaves z.cells.toList = some i.zero ∧ z.cells.size = i.size

def TabOk (P : Program) (T : Nat → Option TI) : Prop := ∀ t i, T t = some i → TIOk P t i

theorem ofLeaf_ok {w : World} {I : Nat → Prop} : ∀ {v : Value} {x : D}, ofLeaf v = some x → DRel w I x v ∧ v.oneCell' = true ∧ x.cs = [x] := by
  intro v x h
  unfold ofLeaf at h
  split at h <;> simp at h <;> subst h <;> simp [DRel, Value.oneCell', D.cs]

theorem ofLeaves_ok {w : World} {I : Nat → Prop} : ∀ {vs : List Value} {xs : List D}, ofLeaves vs = some xs → DRelL w I xs vs ∧ Ones vs
  | [], xs, h => by simp [ofLeaves] at h; subst h; simp [DRelL, Ones]
  | v :: r, xs, h => by
    simp only [ofLeaves, Option.bind_eq_some_iff, Option.map_eq_some_iff] at h
    obtain ⟨x, hx, ys, hy, rfl⟩ := h
    obtain ⟨h1, h2, _⟩ := ofLeaf_ok (w := w) (I := I) hx
    obtain ⟨h3, h4⟩ := ofLeaves_ok (w := w) (I := I) hy
    refine ⟨by simp only [DRelL]; exact ⟨v, r, rfl, h1, h3⟩, fun u hu => ?_⟩
    rcases List.mem_cons.1 hu with rfl | hu
    · exact h2
    · exact h4 u hu

theorem ofVal_ok {w : World} {I : Nat → Prop} {v : Value} {x : D} (h : ofVal v = some x) : DRel w I x v := by
  unfold ofVal at h
  split at h
  · rename_i cs
    simp only [Option.map_eq_some_iff] at h
    obtain ⟨xs, hx, rfl⟩ := h
    obtain ⟨h1, h2⟩ := ofLeaves_ok (w := w) (I := I) hx
    simp only [DRel]
    exact ⟨cs.toList, by simp, h2, h1⟩
  · exact (ofLeaf_ok h).1

def evX (s : St) : Operand → Option FV
  | .tmp t => get s.env t
  | .const v => (ofVal v).map .d
  | .func f => some (.fn f [])
  | .global _ => none

section
variable {P : Program} {T : Nat → Option TI} {w : World} {I : Nat → Prop} {L : List Lay} {s : St} {a : Act}

theorem SR.evX (hs : SR w I L s a) {x : Operand} {v : FV} (h : evX s x = some v) : VRel w I L v (a.eval x) := by
  cases x with
  | tmp t => exact hs.env t v h
  | const c =>
    simp only [Pay.evX, Option.map_eq_some_iff] at h
    obtain ⟨x, hx, rfl⟩ := h
    simp only [VRel, Act.eval]
    exact ofVal_ok hx
  | func f =>
    simp only [Pay.evX, Option.some.injEq] at h
    subst h
    simp [VRel, Act.eval, VRelL]
  | global g => cases h

theorem runU {t : TypeId} {d : TypeDesc} (h : P.underlying t = some d) : (underlying t).run P w = .ok d w := run_underlying h w

theorem TIOk.sizeOf {t : TypeId} {i : TI} (h : TIOk P t i) : (sizeOf t).run P w = .ok i.size w := by
  obtain ⟨j, z, hj, h1, _⟩ := h.info
  simp [Go.sizeOf, typeInfo, hj, h1]

theorem TIOk.zeroValue {t : TypeId} {i : TI} (h : TIOk P t i) : ∃ z, (zeroValue t).run P w = .ok z w ∧ ofLeaves z.cells.toList = some i.zero ∧ z.cells.size = i.size := by
  obtain ⟨j, z, hj, h1, _, h3, h4, h5⟩ := h.info
  exact ⟨z, by simp [Go.zeroValue, typeInfo, hj, h3], h4, h5⟩

theorem TIOk.isAgg {t : TypeId} {i : TI} (h : TIOk P t i) : (isAgg t).run P w = .ok i.ag w := by
  have hk := h.kind
  unfold TI.ag
  cases hkd : i.kind <;> rw [hkd] at hk <;> simp only [TKOk] at hk
  case struct => obtain ⟨f, hf, _⟩ := hk; simp [Go.isAgg, runU hf]
  case iface => obtain ⟨f, hf⟩ := hk; simp [Go.isAgg, runU hf]
  case other =>
    obtain ⟨d, hd, hn⟩ := hk
    cases d <;> simp_all [Go.isAgg, run_underlying hd]
  all_goals simp [Go.isAgg, runU hk]

/-! ### Operators -/

def evInt (op : BinOp) (k : IntKind) (a b : Int) : Option D :=
  match op with
  | .add => some (.int k (k.wrap (a + b)))
  | .sub => some (.int k (k.wrap (a - b)))
  | .mul => some (.int k (k.wrap (a * b)))
  | .quo => if b = 0 then none else some (.int k (k.wrap (a.tdiv b)))
  | .rem => if b = 0 then none else some (.int k (a.tmod b))
  | .and => some (.int k (bits .and k a b))
  | .or => some (.int k (bits .or k a b))
  | .xor => some (.int k (bits .xor k a b))
  | .andNot => some (.int k (bits .andNot k a b))
  | .eql => some (.bool (a == b))
  | .neq => some (.bool (a != b))
  | .lss => some (.bool (decide (a < b)))
  | .leq => some (.bool (decide (a ≤ b)))
  | .gtr => some (.bool (decide (b < a)))
  | .geq => some (.bool (decide (b ≤ a)))
  | _ => none

def evStr (op : BinOp) (a b : List UInt8) : Option D :=
  match op with
  | .add => if ((a.length + b.length : Nat) : Int) > 9223372036854775807 then none else some (.str (a ++ b))
  | .eql => some (.bool (a == b))
  | .neq => some (.bool (!(a == b)))
  | _ => none

def evFlt (op : BinOp) (k : FloatKind) (a b : Nat) : Option D :=
  match op with
  | .add => (k.format.add a b).map (.flt k ·)
  | .sub => (k.format.sub a b).map (.flt k ·)
  | .eql => some (.bool (k.format.order a b == some .eq))
  | .neq => some (.bool (k.format.order a b != some .eq))
  | _ => none

def evCpx (op : BinOp) (k : FloatKind) (a b c d : Nat) : Option D :=
  match op with
  | .add => (k.format.add a c).bind fun x => (k.format.add b d).map fun y => .cpx k x y
  | .eql => some (.bool (k.format.order a c == some .eq && k.format.order b d == some .eq))
  | .neq => some (.bool (!(k.format.order a c == some .eq && k.format.order b d == some .eq)))
  | _ => none

def evBin (T : Nat → Option TI) (op : BinOp) (t : TypeId) (x y : FV) : Option D :=
  match x, y with
  | .d (.int k a), .d (.int k' b) => if k = k' then (match op with
    | .shl => if 0 ≤ b then some (.int k (k.wrap (a * 2 ^ (min b.toNat k.bits)))) else none
    | .shr => if 0 ≤ b then some (.int k (a.fdiv (2 ^ (min b.toNat k.bits)))) else none
    | _ => evInt op k a b) else none
  | .d (.str a), .d (.str b) => evStr op a b
  | .d (.flt k a), .d (.flt k' b) => if k = k' then evFlt op k a b else none
  | .d (.cpx k a b), .d (.cpx k' c d) => if k = k' then evCpx op k a b c d else none
  | .d (.bool a), .d (.bool b) => match T t with
    | some ⟨.bool, _, _, _⟩ => (match op with
      | .eql => some (.bool (a == b))
      | .neq => some (.bool (!(a == b)))
      | _ => none)
    | _ => none
  | .d .any, .d .nili => match T t with
    | some ⟨.iface, _, _, _⟩ => (match op with
      | .eql => some (.bool false)
      | .neq => some (.bool true)
      | _ => none)
    | _ => none
  | .d .nili, .d .nili => match T t with
    | some ⟨.iface, _, _, _⟩ => (match op with
      | .eql => some (.bool true)
      | .neq => some (.bool false)
      | _ => none)
    | _ => none
  | .ref _ _, .d .nilp => match T t with
    | some ⟨.ptr _, _, _, _⟩ => (match op with
      | .eql => some (.bool false)
      | .neq => some (.bool true)
      | _ => none)
    | _ => none
  | _, _ => none

theorem evInt_ok {op : BinOp} {k : IntKind} {m n : Int} {t : TypeId} {z : D} (h : evInt op k m n = some z) :
    ∃ v, (∀ w' : World, (binOp op t (.int k m) (.int k n)).run P w' = .ok v w') ∧ DRel w I z v := by
  cases op <;> simp only [evInt, Option.some.injEq, reduceCtorEq] at h
  case quo =>
    split at h
    · cases h
    · rename_i hb; cases h; exact ⟨_, fun _ => by simp [binOp, Op.intDiv, hb]; rfl, by simp [DRel]⟩
  case rem =>
    split at h
    · cases h
    · rename_i hb; cases h; exact ⟨_, fun _ => by simp [binOp, Op.intDiv, hb]; rfl, by simp [DRel]⟩
  all_goals (subst h; exact ⟨_, fun _ => by simp [binOp, Op.intArith, Op.intCmp, intBits_and, intBits_or, intBits_xor, intBits_andNot]; rfl, by simp [DRel]⟩)

theorem bytes_beq (x y : List UInt8) : ((⟨x.toArray⟩ : ByteArray).toList == (⟨y.toArray⟩ : ByteArray).toList) = (x == y) := by
  rw [Lib.toList_data, Lib.toList_data]

theorem evStr_ok {op : BinOp} {x y : List UInt8} {t : TypeId} {z : D} (h : evStr op x y = some z) :
    ∃ v, (∀ w' : World, (binOp op t (.string ⟨x.toArray⟩) (.string ⟨y.toArray⟩)).run P w' = .ok v w') ∧ DRel w I z v := by
  cases op <;> simp only [evStr, Option.some.injEq, reduceCtorEq] at h
  case add =>
    split at h
    · cases h
    · rename_i hb
      cases h
      refine ⟨.string ⟨(x ++ y).toArray⟩, fun w' => ?_, by simp only [DRel]⟩
      have hsz : ((⟨x.toArray⟩ : ByteArray).size : Nat) = x.length := by simp [ByteArray.size]
      have hsz2 : ((⟨y.toArray⟩ : ByteArray).size : Nat) = y.length := by simp [ByteArray.size]
      simp only [binOp, Op.stringOp, hsz, hsz2, IntKind.max_i64, if_neg hb, Sem.run_pure]
      rfl
  case eql => subst h; exact ⟨_, fun _ => by simp only [binOp, Op.stringOp, Sem.run_pure]; rfl, by simp only [DRel, bytes_beq]⟩
  case neq => subst h; exact ⟨_, fun _ => by simp only [binOp, Op.stringOp, Sem.run_pure]; rfl, by simp only [DRel, bytes_beq]⟩

theorem evFlt_ok {op : BinOp} {k : FloatKind} {m n : Nat} {t : TypeId} {z : D} (h : evFlt op k m n = some z) :
    ∃ v, (∀ w' : World, (binOp op t (.float k m) (.float k n)).run P w' = .ok v w') ∧ DRel w I z v := by
  cases op <;> simp only [evFlt, Option.some.injEq, reduceCtorEq, Option.map_eq_some_iff] at h
  case add => obtain ⟨r, hr, rfl⟩ := h; exact ⟨_, fun _ => by simp [binOp, Op.floatArith, hr]; rfl, by simp [DRel]⟩
  case sub => obtain ⟨r, hr, rfl⟩ := h; exact ⟨_, fun _ => by simp [binOp, Op.floatArith, hr]; rfl, by simp [DRel]⟩
  all_goals (subst h; exact ⟨_, fun _ => by simp [binOp, Op.floatCmp]; rfl, by simp [DRel]⟩)

theorem evCpx_ok {op : BinOp} {k : FloatKind} {m n p q : Nat} {t : TypeId} {z : D} (h : evCpx op k m n p q = some z) :
    ∃ v, (∀ w' : World, (binOp op t (.complex k m n) (.complex k p q)).run P w' = .ok v w') ∧ DRel w I z v := by
  cases op <;> simp only [evCpx, Option.some.injEq, reduceCtorEq, Option.map_eq_some_iff, Option.bind_eq_some_iff] at h
  case add =>
    obtain ⟨r, hr, r', hr', rfl⟩ := h
    exact ⟨_, fun _ => by simp [binOp, Op.complexOp, Op.Complex.arith, Op.floatArith, hr, hr']; rfl, by simp [DRel]⟩
  all_goals (subst h; exact ⟨_, fun _ => by simp [binOp, Op.complexOp, Op.Complex.cmp, Op.floatCmp, asBool]; rfl, by simp [DRel]⟩)

theorem eqIn_bool (d : Nat) {t : TypeId} (m n : Bool) (hk : P.underlying t = some .bool) : (Op.equalIn (d + 1) t (.bool m) (.bool n)).run P w = .ok (m == n) w := by
  simp [Op.equalIn, runU hk]
theorem eqIn_any (d : Nat) {t u : TypeId} {v : Value} {ms : Array (String × TypeId)} (hk : P.underlying t = some (.interface ms)) : (Op.equalIn (d + 1) t (.iface u v) .nilIface).run P w = .ok false w := by
  simp [Op.equalIn, runU hk]
theorem eqIn_nil (d : Nat) {t : TypeId} {ms : Array (String × TypeId)} (hk : P.underlying t = some (.interface ms)) : (Op.equalIn (d + 1) t .nilIface .nilIface).run P w = .ok true w := by
  simp [Op.equalIn, runU hk]
theorem eqIn_ptr (d : Nat) {t e : TypeId} {b : Addr} (hk : P.underlying t = some (.pointer e)) : (Op.equalIn (d + 1) t (.pointer (some b)) (.pointer none)).run P w = .ok false w := by
  simp [Op.equalIn, runU hk]

theorem run_eql_of {t : TypeId} {x y : Value} {r : Bool} (h1 : binOp .eql t x y = (do pure (.bool (← Op.equal t x y)))) (h : ∀ d, (Op.equalIn (d + 1) t x y).run P w = .ok r w) :
    (binOp .eql t x y).run P w = .ok (.bool r) w := by
  have := h 9999
  rw [h1]
  unfold Op.equal Op.maxDepth
  simp [this]
theorem run_neq_of {t : TypeId} {x y : Value} {r : Bool} (h1 : binOp .neq t x y = (do pure (.bool (!(← Op.equal t x y))))) (h : ∀ d, (Op.equalIn (d + 1) t x y).run P w = .ok r w) :
    (binOp .neq t x y).run P w = .ok (.bool !r) w := by
  have := h 9999
  rw [h1]
  unfold Op.equal Op.maxDepth
  simp [this]

theorem evBin_ok (hT : TabOk P T) {op : BinOp} {t : TypeId} {x y : FV} {vx vy : Value} {z : D} (hx : VRel w I L x vx) (hy : VRel w I L y vy) (h : evBin T op t x y = some z) :
    ∃ v, (∀ w' : World, (binOp op t vx vy).run P w' = .ok v w') ∧ DRel w I z v := by
  unfold evBin at h
  split at h
  · rename_i k m k' n
    simp only [VRel, DRel] at hx hy
    subst hx; subst hy
    split at h
    · rename_i hk; subst hk
      split at h
      · split at h
        · rename_i hb; cases h; exact ⟨_, fun _ => by simp [binOp, Op.shift, Int.not_lt.2 hb]; rfl, by simp [DRel]⟩
        · cases h
      · split at h
        · rename_i hb; cases h; exact ⟨_, fun _ => by simp [binOp, Op.shift, Int.not_lt.2 hb]; rfl, by simp [DRel]⟩
        · cases h
      · exact evInt_ok h
    · cases h
  · simp only [VRel, DRel] at hx hy; subst hx; subst hy; exact evStr_ok h
  · simp only [VRel, DRel] at hx hy; subst hx; subst hy
    split at h
    · rename_i hk; subst hk; exact evFlt_ok h
    · cases h
  · simp only [VRel, DRel] at hx hy; subst hx; subst hy
    split at h
    · rename_i hk; subst hk; exact evCpx_ok h
    · cases h
  · simp only [VRel, DRel] at hx hy; subst hx; subst hy
    split at h
    · rename_i hi
      have hk := (hT _ _ hi).kind
      simp only [TKOk] at hk
      split at h
      · cases h; exact ⟨_, fun _ => run_eql_of rfl (fun d => eqIn_bool d _ _ hk), by simp [DRel]⟩
      · cases h; exact ⟨_, fun _ => run_neq_of rfl (fun d => eqIn_bool d _ _ hk), by simp [DRel]⟩
      · cases h
    · cases h
  · simp only [VRel, DRel] at hx hy; obtain ⟨tt, u, rfl⟩ := hx; subst hy
    split at h
    · rename_i hi
      have hk := (hT _ _ hi).kind
      simp only [TKOk] at hk
      obtain ⟨ms, hk⟩ := hk
      split at h
      · cases h; exact ⟨_, fun _ => run_eql_of rfl (fun d => eqIn_any d  hk), by simp [DRel]⟩
      · cases h; exact ⟨_, fun _ => run_neq_of rfl (fun d => eqIn_any d  hk), by simp [DRel]⟩
      · cases h
    · cases h
  · simp only [VRel, DRel] at hx hy; subst hx; subst hy
    split at h
    · rename_i hi
      have hk := (hT _ _ hi).kind
      simp only [TKOk] at hk
      obtain ⟨ms, hk⟩ := hk
      split at h
      · cases h; exact ⟨_, fun _ => run_eql_of rfl (fun d => eqIn_nil d  hk), by simp [DRel]⟩
      · cases h; exact ⟨_, fun _ => run_neq_of rfl (fun d => eqIn_nil d  hk), by simp [DRel]⟩
      · cases h
    · cases h
  · simp only [VRel, DRel] at hx hy; obtain ⟨b, _, rfl⟩ := hx; subst hy
    split at h
    · rename_i hi
      have hk := (hT _ _ hi).kind
      simp only [TKOk] at hk
      split at h
      · cases h; exact ⟨_, fun _ => run_eql_of rfl (fun d => eqIn_ptr d  hk), by simp [DRel]⟩
      · cases h; exact ⟨_, fun _ => run_neq_of rfl (fun d => eqIn_ptr d  hk), by simp [DRel]⟩
      · cases h
    · cases h
  · cases h

end
end Go.Proofs.Ytaobnhenjldjeaa.Pay
/- Operations that turn no memory: loads, addresses, cuts, conversions, the small builtins. No statement of the seed is proved here. -/
namespace Go.Proofs.Ytaobnhenjldjeaa.Pay
open Go Go.RowKit
set_option linter.unusedVariables false
set_option linter.unusedSimpArgs false

def mkV (cs : List FV) : FV := match allD cs with
  | some ds => .d (.agg ds)
  | none => .agg cs

def elemAt (S : List Ob) (id k i : Nat) : Option D := match S[id]? with
  | some (.arr _ k' xs) => if k' = k then xs[i]? else none
  | some (.frz k' xs) => if k' = k then xs[i]? else none
  | _ => none

def ldD (i : TI) (cs : List D) : Option D := if i.ag = true then (if i.size ≤ cs.length then some (.agg (cs.take i.size)) else none) else cs[0]?

def evLd (T : Nat → Option TI) (s : St) (t : TypeId) (p : FV) : Option FV :=
  (T t).bind fun i => match p with
  | .ref id off => match s.S[id]? with
    | some (.cells _ cs) => if i.ag = true then (if off + i.size ≤ cs.length then some (mkV ((cs.drop off).take i.size)) else none) else cs[off]?
    | _ => none
  | .er id k j off => (elemAt s.S id k j).bind fun x => (ldD i (x.cs.drop off)).map .d
  | .dp cs => (ldD i cs).map .d
  | _ => none

def evFA (T : Nat → Option TI) (t : TypeId) (p : FV) (f : Nat) : Option FV :=
  (T t).bind fun i => match i.kind with
  | .struct fs => (fs[f]?).bind fun o => (T o.2).bind fun fi => if fi.size = 0 then none else (match p with
    | .ref id off => some (.ref id (off + o.1))
    | .er id k j off => some (.er id k j (off + o.1))
    | .dp cs => some (.dp (cs.drop o.1))
    | _ => none)
  | _ => none

def partV (i : TI) (off : Nat) (cs : List FV) : Option FV := if i.ag = true then (if off + i.size ≤ cs.length then some (mkV ((cs.drop off).take i.size)) else none) else cs[off]?

def cellsV : FV → Option (List FV)
  | .d (.agg cs) => some (cs.map .d)
  | .agg cs => some cs
  | _ => none

def evField (T : Nat → Option TI) (t : TypeId) (x : FV) (f : Nat) : Option FV :=
  (T t).bind fun i => match i.kind with
  | .struct fs => (fs[f]?).bind fun o => (T o.2).bind fun fi => (cellsV x).bind (partV fi o.1)
  | _ => none

def evIA (T : Nat → Option TI) (s : St) (t : TypeId) (x : FV) (ix : FV) : Option FV :=
  match ix with
  | .d (.int _ j) => (T t).bind fun i => match i.kind with
    | .slice e => (T e).bind fun ei => (match x with
      | .sl id n => match s.S[id]? with
        | some (.arr _ k xs) => if k = ei.size ∧ n ≤ xs.length ∧ 0 ≤ j ∧ j < n then some (.er id k j.toNat 0) else none
        | some (.frz k xs) => if k = ei.size ∧ n ≤ xs.length ∧ 0 ≤ j ∧ j < n then some (.er id k j.toNat 0) else none
        | _ => none
      | .d (.list k xs) => if k = ei.size ∧ 0 ≤ j ∧ j < xs.length then (xs[j.toNat]?).map fun x => .dp x.cs else none
      | .so id k' off n => match s.S[id]? with
        | some (.arr _ k xs) => if k = ei.size ∧ k' = k ∧ off + n ≤ xs.length ∧ 0 ≤ j ∧ j < n then some (.er id k (off + j.toNat) 0) else none
        | _ => none
      | _ => none)
    | .array n e => (T e).bind fun ei => (match x with
      | .ref id off => if 0 ≤ j ∧ j < n then some (.ref id (off + j.toNat * ei.size)) else none
      | _ => none)
    | _ => none
  | _ => none

def evIx (T : Nat → Option TI) (t : TypeId) (x : FV) (ix : FV) : Option FV :=
  match ix with
  | .d (.int _ j) => (T t).bind fun i => match i.kind with
    | .str => (match x with
      | .d (.str s) => if 0 ≤ j then (s[j.toNat]?).map fun b => .d (.int .u8 b.toNat) else none
      | _ => none)
    | .array n e => (T e).bind fun ei => if 0 ≤ j ∧ j < n then (cellsV x).bind (partV ei (j.toNat * ei.size)) else none
    | _ => none
  | _ => none

def bnd (dflt : Nat) : Option FV → Option Nat
  | none => some dflt
  | some (.d (.int _ n)) => if 0 ≤ n then some n.toNat else none
  | _ => none

def evSl (T : Nat → Option TI) (s : St) (t : TypeId) (x : FV) (lo hi : Option FV) : Option FV :=
  (T t).bind fun i => match i.kind, x with
  | .str, .d (.str l) => (bnd 0 lo).bind fun a => (bnd l.length hi).bind fun b => if a ≤ b ∧ b ≤ l.length then some (.d (.str ((l.drop a).take (b - a)))) else none
  | .slice e, .d (.list k xs) => (T e).bind fun ei => if k = ei.size then (bnd 0 lo).bind fun a => (bnd xs.length hi).bind fun b => if a ≤ b ∧ b ≤ xs.length then some (.d (.list k ((xs.drop a).take (b - a)))) else none else none
  | .slice e, .sl id n => (T e).bind fun ei => (bnd 0 lo).bind fun a => (bnd n hi).bind fun b => match s.S[id]? with
    | some (.arr _ k xs) => if a ≤ b ∧ b ≤ n ∧ n ≤ xs.length then (match lo with
      | none => some (.sl id b)
      | some _ => if k = ei.size then some (.so id k a (b - a)) else none) else none
    | _ => none
  | .slice e, .sc id n c => (T e).bind fun ei => (bnd 0 lo).bind fun a => (bnd n hi).bind fun b => match s.S[id]? with
    | some (.arr _ k _) => if a ≤ b ∧ b ≤ c then (match lo with
      | none => some (.sc id b c)
      | some _ => if k = ei.size then some (.so id k a (b - a)) else none) else none
    | _ => none
  | _, _ => none

def u8s : List D → Option (List UInt8)
  | [] => some []
  | .int .u8 n :: r => (u8s r).map (UInt8.ofNat n.toNat :: ·)
  | _ :: _ => none

def evCv (T : Nat → Option TI) (s : St) (src dst : TypeId) (x : FV) : Option FV :=
  (T src).bind fun i => (T dst).bind fun j => match j.kind, x with
  | .int k, .d (.int _ n) => some (.d (.int k (k.wrap n)))
  | .flt k, .d (.int _ n) => some (.d (.flt k (k.nearest n)))
  | .int k, .d (.flt f b) => (match (f.decode b).toInt .zero with
    | some n => if k.min ≤ n ∧ n ≤ k.max then some (.d (.int k n)) else none
    | none => none)
  | .str, .d (.str l) => (match i.kind with | .str => some (.d (.str l)) | _ => none)
  | .str, .d (.list k xs) => (match i.kind with
    | .slice e => (match T e with
      | some ⟨.int .u8, _, _, _⟩ => if k = 1 then (u8s xs).map fun l => .d (.str l) else none
      | _ => none)
    | _ => none)
  | .str, .sl id n => (match i.kind with
    | .slice e => (match T e with
      | some ⟨.int .u8, _, _, _⟩ => (match s.S[id]? with
        | some (.arr _ k xs) => if k = 1 ∧ n = xs.length then (u8s xs).map fun l => .d (.str l) else none
        | _ => none)
      | _ => none)
    | _ => none)
  | _, _ => none

def evUn (op : UnOp) (x : FV) : Option FV :=
  match op, x with
  | .neg, .d (.int k n) => some (.d (.int k (k.wrap (0 - n))))
  | .not, .d (.bool b) => some (.d (.bool !b))
  | _, _ => none

def lenV (s : St) : FV → Option Nat
  | .d (.str l) => some l.length
  | .d (.list _ xs) => some xs.length
  | .d .nil => some 0
  | .sl _ n => some n
  | .so _ _ _ n => some n
  | .d .nilm => some 0
  | .d (.map ks _) => some ks.length
  | .mp id => match s.S[id]? with
    | some (.map ks _) => some ks.length
    | some (.fmap ks _) => some ks.length
    | _ => none
  | _ => none

def mxI (k : IntKind) (x : Int) : List FV → Option Int
  | [] => some x
  | .d (.int k' y) :: r => if k' = k then mxI k (max x y) r else none
  | _ :: _ => none
def mnI (k : IntKind) (x : Int) : List FV → Option Int
  | [] => some x
  | .d (.int k' y) :: r => if k' = k then mnI k (min x y) r else none
  | _ :: _ => none

def evBu (T : Nat → Option TI) (s : St) (b : Builtin) (ts : Array TypeId) (args : List FV) : Option FV :=
  match b, args with
  | .len, [x] => (ts[0]?).bind fun t => (T t).bind fun i => (match i.kind, x with
    | .str, .d (.str _) => (lenV s x).map fun n => .d (.int .i64 n)
    | .slice _, .d (.list _ _) => (lenV s x).map fun n => .d (.int .i64 n)
    | .slice _, .d .nil => (lenV s x).map fun n => .d (.int .i64 n)
    | .slice _, .sl _ _ => (lenV s x).map fun n => .d (.int .i64 n)
    | .slice _, .so _ _ _ _ => (lenV s x).map fun n => .d (.int .i64 n)
    | .array n _, _ => some (.d (.int .i64 n))
    | _, _ => none)
  | .cap, [.sc _ _ c] => (ts[0]?).bind fun t => (T t).bind fun i => (match i.kind with
    | .slice _ => some (.d (.int .i64 c))
    | _ => none)
  | .max, .d (.int k x) :: r => (mxI k x r).map fun n => .d (.int k n)
  | .min, .d (.int k x) :: r => (mnI k x r).map fun n => .d (.int k n)
  | .real, [.d (.cpx k a _)] => some (.d (.flt k a))
  | .imag, [.d (.cpx k _ b)] => some (.d (.flt k b))
  | .complex, [.d (.flt k a), .d (.flt k' b)] => if k = k' then some (.d (.cpx k a b)) else none
  | _, _ => none

def evXs (s : St) : List Operand → Option (List FV)
  | [] => some []
  | x :: r => (evX s x).bind fun v => (evXs s r).map (v :: ·)

def evOpt (s : St) : Option Operand → Option (Option FV)
  | none => some none
  | some x => (evX s x).map some

/-- What an operation that turns no memory gives. -/
def evA (T : Nat → Option TI) (s : St) : Op → Option FV
  | .move x | .assign x => evX s x
  | .pick c a b => (evX s c).bind fun c => (evX s a).bind fun a => (evX s b).bind fun b => (match c, a, b with
    | .d (.bool t), .d x, .d y => some (.d (if t = true then x else y))
    | .d (.bool t), .d x, .tup [] => if t = true then some (.d x) else none
    | .d (.bool t), .tup [], .d y => if t = true then none else some (.d y)
    | _, _, _ => none)
  | .nilCheck x => (evX s x).bind fun v => (match v with
    | .ref _ _ => some v
    | .er _ _ _ _ => some v
    | .dp _ => some v
    | .fn _ _ => some v
    | _ => none)
  | .binOp op t x y _ => (evX s x).bind fun vx => (evX s y).bind fun vy => (match vx, vy with
    | .d .nili, .d .nili => (match x, y with
      | .const _, _ => evBin T op t vx vy
      | _, .const _ => evBin T op t vx vy
      | _, _ => none)
    | _, _ => evBin T op t vx vy).map .d
  | .unOp op _ x => (evX s x).bind (evUn op)
  | .convert src dst x => (evX s x).bind (evCv T s src dst)
  | .makeFunc (.func f) first caps => if first.size = 0 then (evXs s caps.toList).map (.fn f) else none
  | .makeInterface t x => (evX s x).bind fun _ => (T t).bind fun i => (match i.kind with
    | .iface => none
    | _ => some (.d .any))
  | .load t p => (evX s p).bind (evLd T s t)
  | .fieldAddr t p f => (evX s p).bind fun v => evFA T t v f
  | .field t x f => (evX s x).bind fun v => evField T t v f
  | .indexAddr t x i => (evX s x).bind fun v => (evX s i).bind fun j => evIA T s t v j
  | .index t x i => (evX s x).bind fun v => (evX s i).bind fun j => evIx T t v j
  | .slice t x lo hi none => (evX s x).bind fun v => (evOpt s lo).bind fun l => (evOpt s hi).bind fun h => evSl T s t v l h
  | .extract x i => (evX s x).bind fun v => (match v with
    | .tup vs => vs[i]?
    | _ => none)
  | .call { callee := .builtin b, args, argTypes } => (evXs s args.toList).bind (evBu T s b argTypes)
  | _ => none

section
variable {P : Program} {T : Nat → Option TI} {w : World} {I : Nat → Prop} {L : List Lay} {s : St} {a : Act}

theorem mkV_ok {cs : List FV} {vs : List Value} (h : VRelL w I L cs vs) (ho : Ones vs) : VRel w I L (mkV cs) (.agg vs.toArray) := by
  unfold mkV
  split
  · rename_i ds hd
    simp only [VRel, DRel]
    exact ⟨vs, rfl, ho, h.allD hd⟩
  · simp only [VRel]; exact ⟨vs, rfl, ho, h⟩

theorem Ones.drop {vs : List Value} (h : Ones vs) (n : Nat) : Ones (vs.drop n) := fun v hv => h v (List.mem_of_mem_drop hv)
theorem Ones.take {vs : List Value} (h : Ones vs) (n : Nat) : Ones (vs.take n) := fun v hv => h v (List.mem_of_mem_take hv)

theorem cellsAt_drop {b o : Nat} {vs : List Value} (h : CellsAt w b o vs) (n : Nat) : CellsAt w b (o + n) (vs.drop n) := fun j v hv => by
  have := h (n + j) v (by simpa using hv)
  rwa [← Nat.add_assoc] at this
theorem cellsAt_take {b o : Nat} {vs : List Value} (h : CellsAt w b o vs) (n : Nat) : CellsAt w b o (vs.take n) := fun j v hv => by
  rw [List.getElem?_take] at hv
  split at hv
  · exact h j v hv
  · cases hv

theorem cellsAt_block {b : Nat} {vs : List Value} {t : TypeId} {fr : Nat × Nat} (h : w.heap[b]? = some (.cells vs.toArray t fr)) : CellsAt w b 0 vs := fun j v hv => by
  simp [World.cell?, h, hv]

/-- A variable of a type is loaded from cells. -/
theorem run_loadVar_cells {t : TypeId} {i : TI} (hi : TIOk P t i) {b o : Nat} {vs : List Value} (hc : CellsAt w b o vs) (hle : i.ag = true → i.size ≤ vs.length) (h1 : i.ag = false → 0 < vs.length) :
    (loadVar t ⟨b, o, none⟩).run P w = .ok (if i.ag = true then .agg (vs.take i.size).toArray else vs.headD undef) w := by
  unfold loadVar
  simp only [Sem.run_bind, hi.isAgg, Result.andThen_ok]
  cases hag : i.ag with
  | true =>
    have hl : (vs.take i.size).length = i.size := by rw [List.length_take]; have := hle hag; omega
    have hr := run_loadCells_list (P := P) w ⟨b, o, none⟩ (vs.take i.size) (fun j v hv => by
      have := cellsAt_take hc i.size j v hv
      simpa [Addr.add_lit] using this)
    rw [hl] at hr
    simp [hi.sizeOf, hr]
  | false =>
    cases vs with
    | nil => have := h1 hag; simp at this
    | cons v r =>
      have h0 := hc 0 v rfl
      simp only [Nat.add_zero] at h0
      simp [h0]

theorem ldD_ok {t : TypeId} {i : TI} (hi : TIOk P t i) {b o : Nat} {vs : List Value} {cs : List D} {x : D} (hc : CellsAt w b o vs) (ho : Ones vs) (hr : DRelL w I cs vs) (h : ldD i cs = some x) :
    ∃ v, (∀ w' : World, CellsAt w' b o vs → (loadVar t ⟨b, o, none⟩).run P w' = .ok v w') ∧ DRel w I x v := by
  unfold ldD at h
  cases hag : i.ag with
  | true =>
    simp only [hag, if_true] at h
    split at h
    · rename_i hl
      cases h
      refine ⟨_, fun w' hc' => run_loadVar_cells hi hc' (fun _ => by rw [hr.length]; exact hl) (fun h => by rw [hag] at h; cases h), ?_⟩
      simp only [hag, if_true, DRel]
      exact ⟨_, rfl, ho.take _, hr.take _⟩
    · cases h
  | false =>
    simp only [hag, Bool.false_eq_true, if_false] at h
    obtain ⟨v, hv, hx⟩ := hr.get 0 x h
    refine ⟨v, fun w' hc' => ?_, hx⟩
    rw [run_loadVar_cells hi hc' (fun h => by rw [hag] at h; cases h) (fun _ => by cases vs <;> simp_all)]
    simp only [hag, Bool.false_eq_true, if_false]
    cases vs <;> simp_all

/-- The cells of an own array's element. -/
theorem ownsRow_cells {e : TypeId} {k n cap : Nat} {base : Option Nat} {vs : List Value} (h : w.ownsRow 0 e k (.slice (Lay.head base) n cap) n vs) (hn : 0 < vs.length) :
    ∃ b, base = some b ∧ CellsAt w b 0 vs := by
  rcases h.2 with ⟨_, rfl⟩ | ⟨g, cp, cur, he, _, hg, _, _, _, ht⟩
  · have := h.1
    simp at this
    subst this
    simp at hn
  · cases base with
    | none => simp [Lay.head] at he
    | some b =>
      simp [Lay.head] at he
      obtain ⟨rfl, rfl⟩ := he
      refine ⟨b, rfl, fun j v hv => ?_⟩
      have := h.cells (g := b) rfl j v hv
      simpa [Addr.add_lit] using this

theorem elem_cells {k i : Nat} {xs : List D} {vs : List Value} {b o : Nat} {x : D} (hr : DRelR w I k xs vs) (hc : CellsAt w b o vs) (hx : xs[i]? = some x) :
    ∃ v, DRel w I x v ∧ v.cells.size = k ∧ CellsAt w b (o + i * k) v.cells.toList := by
  obtain ⟨v, hv, hk, hd⟩ := hr.get i x hx
  exact ⟨v, hv, hk, hd ▸ cellsAt_take (cellsAt_drop hc (i * k)) k⟩

theorem owns_mem : ∀ {S : List Ob} {L : List Lay} {i : Nat} {o : Ob} {l : Lay}, S[i]? = some o → L[i]? = some l → ∀ b ∈ own o l, b ∈ owns S L
  | [], _, i, o, l, h, _ => by simp at h
  | x :: S, [], i, o, l, _, h => by simp at h
  | x :: S, y :: L, i, o, l, h1, h2 => by
    intro b hb
    cases i with
    | zero => simp at h1 h2; subst h1; subst h2; simp [owns, hb]
    | succ i => simp only [owns, List.mem_append]; exact .inr (owns_mem (by simpa using h1) (by simpa using h2) b hb)

/-- Two worlds agree on what a state knows. -/
def Agree (w w' : World) (I : Nat → Prop) (A : List Nat) : Prop := ∀ b, (I b ∨ b ∈ A) → w'.heap[b]? = w.heap[b]?

theorem elemAt_ok (hs : SR w I L s a) {id k i : Nat} {x : D} (h : elemAt s.S id k i = some x) {b cap : Nat} (hl : L[id]? = some (.a (some b) cap)) :
    ∃ v, DRel w I x v ∧ v.cells.size = k ∧ CellsAt w b (i * k) v.cells.toList ∧ (v.cells.toList = [] ∨ I b ∨ b ∈ owns s.S L) := by
  unfold elemAt at h
  split at h
  · rename_i e k' xs hS
    split at h
    · rename_i hk; subst hk
      rcases hs.obs _ _ _ hS hl with ⟨base, cp, vs, he, hown, hr⟩ | ⟨hd, he, _⟩
      rotate_left
      · cases he
      cases he
      have hlen : i < xs.length := (List.getElem?_eq_some_iff.1 h).1
      obtain ⟨v, hv, hk, hd⟩ := hr.get i x h
      by_cases h0 : 0 < vs.length
      · obtain ⟨b', hb, hc⟩ := ownsRow_cells hown h0
        cases hb
        obtain ⟨v, h1, h2, h3⟩ := elem_cells hr hc h
        exact ⟨v, h1, h2, by simpa using h3, .inr (.inr (owns_mem hS hl b (by simp [own])))⟩
      · have : vs = [] := List.eq_nil_of_length_eq_zero (by omega)
        subst this
        have he : v.cells.toList = [] := by rw [← hd]; simp
        refine ⟨v, hv, hk, ?_, .inl he⟩
        rw [he]
        intro j u hu; simp at hu
    · cases h
  · rename_i k' xs hS
    split at h
    · rename_i hk; subst hk
      obtain ⟨base, cp, he, hd⟩ := hs.obs _ _ _ hS hl
      simp only [Lay.hdr, Option.some.injEq, Prod.mk.injEq] at he
      obtain ⟨rfl, rfl⟩ := he
      simp only [DRel] at hd
      obtain ⟨base, c, hv, _, hd⟩ := hd
      rcases hd with hd | ⟨b', o, vs, hb, hIb, hc, hr⟩
      · subst hd; simp at h
      · simp [Lay.head] at hv
        obtain ⟨rfl, rfl⟩ := hv
        simp at hb
        obtain ⟨rfl, rfl⟩ := hb
        obtain ⟨v, h1, h2, h3⟩ := elem_cells hr hc h
        exact ⟨v, h1, h2, by simpa using h3, .inr (.inl hIb)⟩
    · cases h
  · cases h

theorem evLd_ok (hT : TabOk P T) (hs : SR w I L s a) {t : TypeId} {p : FV} {vp : Value} {z : FV} (hp : VRel w I L p vp) (h : evLd T s t p = some z) :
    ∃ v, (∀ w' : World, Agree w w' I (owns s.S L) → (Instr.loadAt t vp).run P w' = .ok v w') ∧ VRel w I L z v := by
  unfold evLd at h
  simp only [Option.bind_eq_some_iff] at h
  obtain ⟨i, hi, h⟩ := h
  have hI := hT _ _ hi
  split at h
  · rename_i id off
    simp only [VRel] at hp
    obtain ⟨b, hl, rfl⟩ := hp
    split at h
    · rename_i tt cs hS
      obtain ⟨b', vs, he, hb, ho, hr⟩ := hs.obs _ _ _ hS hl
      cases he
      have hc := cellsAt_drop (cellsAt_block hb) off
      simp only [Nat.zero_add] at hc
      have hc' : ∀ w' : World, Agree w w' I (owns s.S L) → CellsAt w' b off (vs.drop off) := fun w' hg => cellsAt_of_block (hg b (.inr (owns_mem hS hl b (by simp [own])))) hc
      cases hag : i.ag with
      | true =>
        simp only [hag, if_true] at h
        split at h
        · rename_i hle
          cases h
          refine ⟨_, fun w' hg => by simp only [Instr.loadAt, Instr.sureAddr, Sem.run_bind, Sem.run_pure, Result.andThen_ok]; exact run_loadVar_cells hI (hc' w' hg) (fun _ => by rw [List.length_drop, hr.length]; omega) (fun h => by rw [hag] at h; cases h), ?_⟩
          simp only [hag, if_true]
          exact mkV_ok ((hr.drop off).take _) ((ho.drop _).take _)
        · cases h
      | false =>
        simp only [hag, Bool.false_eq_true, if_false] at h
        obtain ⟨v, hv, hx⟩ := hr.get off z h
        refine ⟨v, fun w' hg => ?_, hx⟩
        simp only [Instr.loadAt, Instr.sureAddr, Sem.run_bind, Sem.run_pure, Result.andThen_ok]
        have hd : vs.drop off = v :: vs.drop (off + 1) := by
          have hlt := (List.getElem?_eq_some_iff.1 hv).1
          rw [List.drop_eq_getElem_cons hlt, (List.getElem?_eq_some_iff.1 hv).2]
        rw [run_loadVar_cells hI (hc' w' hg) (fun h => by rw [hag] at h; cases h) (fun _ => by rw [hd]; simp)]
        simp only [hag, Bool.false_eq_true, if_false, hd, List.headD_cons]
    · cases h
  · rename_i id k j off
    simp only [VRel] at hp
    obtain ⟨b, cap, hl, rfl⟩ := hp
    simp only [Option.bind_eq_some_iff, Option.map_eq_some_iff] at h
    obtain ⟨x, hx, y, hy, rfl⟩ := h
    obtain ⟨v, hv, hk, hc, hIo⟩ := elemAt_ok hs hx hl
    obtain ⟨u, hu, hz⟩ := ldD_ok hI (cellsAt_drop hc off) (hv.ones.drop off) (hv.cells.drop off) hy
    refine ⟨u, fun w' hg => ?_, by simpa only [VRel] using hz⟩
    simp only [Instr.loadAt, Instr.sureAddr, Sem.run_bind, Sem.run_pure, Result.andThen_ok]
    refine hu w' (cellsAt_drop ?_ off)
    rcases hIo with h0 | h0
    · rw [h0]; intro q v hv; simp at hv
    · exact cellsAt_of_block (hg b h0) hc
  · simp only [VRel] at hp
    obtain ⟨b, o, vs, rfl, hIb, hc, ho, hr⟩ := hp
    simp only [Option.map_eq_some_iff] at h
    obtain ⟨y, hy, rfl⟩ := h
    obtain ⟨u, hu, hz⟩ := ldD_ok hI hc ho hr hy
    exact ⟨u, fun w' hg => by simpa only [Instr.loadAt, Instr.sureAddr, Sem.run_bind, Sem.run_pure, Result.andThen_ok] using hu w' (cellsAt_of_block (hg b (.inl hIb)) hc), by simpa only [VRel] using hz⟩
  · cases h

theorem field_of {t : TypeId} {fs : List (Nat × Nat)} {f : Nat} {o : Nat × Nat} (hk : TKOk P t (.struct fs)) (hf : fs[f]? = some o) :
    ∃ (d : Array Field) (fl : Field), P.underlying t = some (.struct d) ∧ d[f]? = some fl ∧ fl.offset = o.1 ∧ fl.type = o.2 := by
  obtain ⟨d, hd, he⟩ := hk
  rw [← he, List.getElem?_map, Option.map_eq_some_iff] at hf
  obtain ⟨fl, hfl, rfl⟩ := hf
  exact ⟨d, fl, hd, by simpa using hfl, rfl, rfl⟩

theorem evFA_ok (hT : TabOk P T) {t : TypeId} {p : FV} {f : Nat} {vp : Value} {z : FV} (hp : VRel w I L p vp) (h : evFA T t p f = some z) :
    ∃ v, (∀ w' : World, (Instr.fieldAt t vp f).run P w' = .ok v w') ∧ VRel w I L z v := by
  unfold evFA at h
  simp only [Option.bind_eq_some_iff] at h
  obtain ⟨i, hi, h⟩ := h
  have hI := (hT _ _ hi).kind
  split at h
  · rename_i fs hkd
    rw [hkd] at hI
    simp only [Option.bind_eq_some_iff] at h
    obtain ⟨o, ho, fi, hfi, h⟩ := h
    obtain ⟨d, fl, hd, hfl, e1, e2⟩ := field_of hI ho
    have hsz : ∀ w' : World, (sizeOf fl.type).run P w' = .ok fi.size w' := fun w' => by rw [e2]; exact (hT _ _ hfi).sizeOf
    split at h
    · cases h
    · rename_i hne
      split at h
      all_goals first | (cases h; done) | skip
      · cases h
        simp only [VRel] at hp ⊢
        obtain ⟨b, hl, rfl⟩ := hp
        exact ⟨_, fun w' => by simp [Instr.fieldAt, runU hd, hfl, Instr.sureAddr, fieldPlace, hsz, hne, Addr.add_lit, e1] <;> rfl, b, hl, rfl⟩
      · cases h
        simp only [VRel] at hp ⊢
        obtain ⟨b, cap, hl, rfl⟩ := hp
        exact ⟨_, fun w' => by simp [Instr.fieldAt, runU hd, hfl, Instr.sureAddr, fieldPlace, hsz, hne, Addr.add_lit, e1] <;> rfl, b, cap, hl, by rw [Nat.add_assoc]⟩
      · cases h
        simp only [VRel] at hp ⊢
        obtain ⟨b, off, vs, rfl, hb, hc, h1, hr⟩ := hp
        exact ⟨_, fun w' => by simp [Instr.fieldAt, runU hd, hfl, Instr.sureAddr, fieldPlace, hsz, hne, Addr.add_lit, e1] <;> rfl, b, off + o.1, vs.drop o.1, rfl, hb, cellsAt_drop hc _, h1.drop _, hr.drop _⟩
  · cases h

theorem cellsV_ok {x : FV} {v : Value} {cs : List FV} (hx : VRel w I L x v) (h : cellsV x = some cs) : ∃ vs : List Value, v = .agg vs.toArray ∧ Ones vs ∧ VRelL w I L cs vs := by
  unfold cellsV at h
  split at h
  · cases h
    simp only [VRel, DRel] at hx
    obtain ⟨vs, rfl, ho, hr⟩ := hx
    exact ⟨vs, rfl, ho, hr.toV⟩
  · cases h
    simp only [VRel] at hx
    exact hx
  · cases h

theorem partV_ok {t : TypeId} {i : TI} (hi : TIOk P t i) {off : Nat} {cs : List FV} {vs : List Value} {z : FV} (ho : Ones vs) (hr : VRelL w I L cs vs) (h : partV i off cs = some z) :
    ∃ v, (∀ w' : World, (part t vs.toArray off).run P w' = .ok v w') ∧ VRel w I L z v := by
  unfold partV at h
  unfold part
  cases hag : i.ag with
  | true =>
    simp only [hag, if_true] at h
    split at h
    · cases h
      refine ⟨.agg ((vs.drop off).take i.size).toArray, fun w' => ?_, mkV_ok ((hr.drop off).take _) ((ho.drop _).take _)⟩
      simp only [Sem.run_bind, hi.isAgg, hag, Result.andThen_ok, if_true, hi.sizeOf, Sem.run_pure]
      congr 2
      apply Array.ext'
      simp
    · cases h
  | false =>
    simp only [hag, Bool.false_eq_true, if_false] at h
    obtain ⟨v, hv, hx⟩ := hr.get off z h
    exact ⟨v, fun w' => by simp [hv, hi.isAgg, hag], hx⟩

theorem evField_ok (hT : TabOk P T) {t : TypeId} {x : FV} {f : Nat} {vx : Value} {z : FV} (hx : VRel w I L x vx) (h : evField T t x f = some z) :
    ∃ v, (∀ w' : World, (Instr.field t vx f).run P w' = .ok v w') ∧ VRel w I L z v := by
  unfold evField at h
  simp only [Option.bind_eq_some_iff] at h
  obtain ⟨i, hi, h⟩ := h
  have hI := (hT _ _ hi).kind
  split at h
  · rename_i fs hkd
    rw [hkd] at hI
    simp only [Option.bind_eq_some_iff] at h
    obtain ⟨o, ho, fi, hfi, cs, hcs, h⟩ := h
    obtain ⟨d, fl, hd, hfl, e1, e2⟩ := field_of hI ho
    obtain ⟨vs, rfl, h1, hr⟩ := cellsV_ok hx hcs
    obtain ⟨v, hv, hz⟩ := partV_ok (hT _ _ hfi) h1 hr h
    exact ⟨v, fun w' => by simp [Instr.field, runU hd, hfl, asAgg, e1, e2, hv], hz⟩
  · cases h

theorem sl_cap (hs : SR w I L s a) {id k : Nat} {e : TypeId} {xs : List D} {l : Lay} {hd : Option Addr} {cap : Nat} (hS : s.S[id]? = some (.arr e k xs)) (hl : L[id]? = some l) (hh : l.hdr = some (hd, cap)) :
    xs.length ≤ cap ∧ (0 < xs.length → ∃ b, l = .a (some b) cap ∧ hd = some ⟨b, 0, none⟩) := by
  rcases hs.obs _ _ _ hS hl with ⟨base', cp, vs, he, hown, hr⟩ | ⟨hd, rfl, rfl⟩
  rotate_left
  · simp
  cases he
  simp only [Lay.hdr, Option.some.injEq, Prod.mk.injEq] at hh
  obtain ⟨rfl, rfl⟩ := hh
  rcases hown.2 with ⟨h1, h2⟩ | ⟨g, cp, cur, he, _, _, hle, _⟩
  · exact ⟨by omega, fun h => by omega⟩
  · cases base' with
    | none => simp [Lay.head] at he
    | some b =>
      simp [Lay.head] at he
      obtain ⟨rfl, rfl⟩ := he
      exact ⟨hle, fun _ => ⟨b, rfl, rfl⟩⟩

theorem frz_cap (hs : SR w I L s a) {id k : Nat} {xs : List D} {l : Lay} {hd : Option Addr} {cap : Nat} (hS : s.S[id]? = some (.frz k xs)) (hl : L[id]? = some l) (hh : l.hdr = some (hd, cap)) :
    xs.length ≤ cap ∧ (0 < xs.length → ∃ b, l = .a (some b) cap ∧ hd = some ⟨b, 0, none⟩) := by
  obtain ⟨hd', cp, he, hd⟩ := hs.obs _ _ _ hS hl
  rw [hh] at he
  simp only [Option.some.injEq, Prod.mk.injEq] at he
  obtain ⟨rfl, rfl⟩ := he
  simp only [DRel] at hd
  obtain ⟨base', c, hv, hle, hd⟩ := hd
  simp at hv
  obtain ⟨rfl, rfl⟩ := hv
  refine ⟨hle, fun h => ?_⟩
  cases l with
  | a base cp =>
    simp only [Lay.hdr, Option.some.injEq, Prod.mk.injEq] at hh
    obtain ⟨h1, rfl⟩ := hh
    rcases hd with hd | ⟨b, o, vs, hb, _⟩
    · subst hd; simp at h
    · cases base with
      | none => subst hb; simp [Lay.head] at h1
      | some b' => exact ⟨b', rfl, h1.symm⟩
  | z hd => simp only [Lay.hdr, Option.some.injEq, Prod.mk.injEq] at hh; obtain ⟨_, rfl⟩ := hh; omega
  | c b => simp [Lay.hdr] at hh
  | m r => simp [Lay.hdr] at hh

theorem evIA_ok (hT : TabOk P T) (hs : SR w I L s a) {t : TypeId} {x ix : FV} {vx vi : Value} {z : FV} (hx : VRel w I L x vx) (hi : VRel w I L ix vi) (h : evIA T s t x ix = some z) :
    ∃ v, (∀ w' : World, (Instr.indexAt t vx vi).run P w' = .ok v w') ∧ VRel w I L z v := by
  unfold evIA at h
  split at h
  · rename_i kk j
    simp only [VRel, DRel] at hi
    subst hi
    simp only [Option.bind_eq_some_iff] at h
    obtain ⟨i, hti, h⟩ := h
    have hI := (hT _ _ hti).kind
    split at h
    · rename_i e hkd
      rw [hkd] at hI
      simp only [TKOk] at hI
      simp only [Option.bind_eq_some_iff] at h
      obtain ⟨ei, hei, h⟩ := h
      have hsz : ∀ w' : World, (sizeOf e).run P w' = .ok ei.size w' := fun w' => (hT _ _ hei).sizeOf
      split at h
      · rename_i id n
        simp only [VRel] at hx
        obtain ⟨ll, hd, cap, hl, hh, rfl⟩ := hx
        split at h
        · rename_i e' k xs hS
          split at h
          · rename_i hc
            obtain ⟨rfl, hn, h0, h1⟩ := hc
            cases h
            obtain ⟨b, rfl, rfl⟩ := (sl_cap hs hS hl hh).2 (by omega)
            refine ⟨_, fun w' => by simp [Instr.indexAt, runU hI, asIntOf, h0, h1, hsz, Addr.add_lit] <;> rfl, ?_⟩
            simp only [VRel]
            exact ⟨b, cap, hl, by simp⟩
          · cases h
        · rename_i k xs hS
          split at h
          · rename_i hc
            obtain ⟨rfl, hn, h0, h1⟩ := hc
            cases h
            obtain ⟨b, rfl, rfl⟩ := (frz_cap hs hS hl hh).2 (by omega)
            refine ⟨_, fun w' => by simp [Instr.indexAt, runU hI, asIntOf, h0, h1, hsz, Addr.add_lit] <;> rfl, ?_⟩
            simp only [VRel]
            exact ⟨b, cap, hl, by simp⟩
          · cases h
        · cases h
      · rename_i k xs
        split at h
        · rename_i hc
          obtain ⟨rfl, h0, h1⟩ := hc
          simp only [Option.map_eq_some_iff] at h
          obtain ⟨y, hy, rfl⟩ := h
          simp only [VRel, DRel] at hx
          obtain ⟨base, c, rfl, _, hx⟩ := hx
          rcases hx with hx | ⟨b, o, vs, rfl, hb, hc, hr⟩
          · subst hx; simp at hy
          · obtain ⟨v, hv, hk, hcc⟩ := elem_cells hr hc hy
            refine ⟨_, fun w' => by simp [Instr.indexAt, runU hI, asIntOf, h0, h1, hsz, Addr.add_lit] <;> rfl, ?_⟩
            simp only [VRel]
            exact ⟨b, _, v.cells.toList, rfl, hb, hcc, hv.ones, hv.cells⟩
        · cases h
      · rename_i id k' off n
        simp only [VRel] at hx
        obtain ⟨ll, hd, c, hl, rfl, hle, hx⟩ := hx
        split at h
        · rename_i e' k xs hS
          split at h
          · rename_i hc
            obtain ⟨rfl, rfl, hn, h0, h1⟩ := hc
            cases h
            rcases hx with h2 | ⟨b, cap, rfl, rfl, hcap⟩
            · omega
            refine ⟨_, fun w' => by simp [Instr.indexAt, runU hI, asIntOf, h0, h1, hsz, Addr.add_lit] <;> rfl, ?_⟩
            simp only [VRel]
            exact ⟨b, cap, hl, by simp [Nat.add_mul]⟩
          · cases h
        · cases h
      · cases h
    · rename_i n e hkd
      rw [hkd] at hI
      simp only [TKOk] at hI
      simp only [Option.bind_eq_some_iff] at h
      obtain ⟨ei, hei, h⟩ := h
      have hsz : ∀ w' : World, (sizeOf e).run P w' = .ok ei.size w' := fun w' => (hT _ _ hei).sizeOf
      split at h
      · rename_i id off
        split at h
        · rename_i hc
          obtain ⟨h0, h1⟩ := hc
          cases h
          simp only [VRel] at hx ⊢
          obtain ⟨b, hl, rfl⟩ := hx
          exact ⟨_, fun w' => by simp [Instr.indexAt, runU hI, asIntOf, Instr.sureAddr, h0, h1, hsz, Addr.add_lit] <;> rfl, b, hl, rfl⟩
        · cases h
      · cases h
    · cases h
  · cases h

theorem evIx_ok (hT : TabOk P T) {t : TypeId} {x ix : FV} {vx vi : Value} {z : FV} (hx : VRel w I L x vx) (hi : VRel w I L ix vi) (h : evIx T t x ix = some z) :
    ∃ v, (∀ w' : World, (Instr.index t vx vi).run P w' = .ok v w') ∧ VRel w I L z v := by
  unfold evIx at h
  split at h
  · rename_i kk j
    simp only [VRel, DRel] at hi
    subst hi
    simp only [Option.bind_eq_some_iff] at h
    obtain ⟨i, hti, h⟩ := h
    have hI := (hT _ _ hti).kind
    split at h
    · rename_i hkd
      rw [hkd] at hI
      simp only [TKOk] at hI
      split at h
      · rename_i l
        split at h
        · rename_i h0
          simp only [Option.map_eq_some_iff] at h
          obtain ⟨b, hb, rfl⟩ := h
          simp only [VRel, DRel] at hx
          subst hx
          have hb' : (⟨l.toArray⟩ : ByteArray)[j.toNat]? = some b := by
            have hlt := (List.getElem?_eq_some_iff.1 hb).1
            have hv := (List.getElem?_eq_some_iff.1 hb).2
            rw [getElem?_pos (⟨l.toArray⟩ : ByteArray) j.toNat (by simpa [ByteArray.size] using hlt)]
            congr 1
          refine ⟨_, fun w' => by simp [Instr.index, runU hI, asIntOf, h0, hb'] <;> rfl, by simp [VRel, DRel]⟩
        · cases h
      · cases h
    · rename_i n e hkd
      rw [hkd] at hI
      simp only [TKOk] at hI
      simp only [Option.bind_eq_some_iff] at h
      obtain ⟨ei, hei, h⟩ := h
      split at h
      · rename_i hc
        obtain ⟨h0, h1⟩ := hc
        simp only [Option.bind_eq_some_iff] at h
        obtain ⟨cs, hcs, h⟩ := h
        obtain ⟨vs, rfl, ho, hr⟩ := cellsV_ok hx hcs
        obtain ⟨v, hv, hz⟩ := partV_ok (hT _ _ hei) ho hr h
        exact ⟨v, fun w' => by simp [Instr.index, runU hI, asIntOf, h0, h1, (hT _ _ hei).sizeOf, hv], hz⟩
      · cases h
    · cases h
  · cases h

end
end Go.Proofs.Ytaobnhenjldjeaa.Pay
/- Cuts, conversions, builtins; all operations that turn no memory, together. No statement of the seed is proved here. -/
namespace Go.Proofs.Ytaobnhenjldjeaa.Pay
open Go Go.RowKit
set_option linter.unusedVariables false
set_option linter.unusedSimpArgs false

section
variable {P : Program} {T : Nat → Option TI} {w : World} {I : Nat → Prop} {L : List Lay} {s : St} {a : Act}

def ORelO (w : World) (I : Nat → Prop) (L : List Lay) : Option FV → Option Value → Prop
  | none, v => v = none
  | some x, v => ∃ u, v = some u ∧ VRel w I L x u

theorem SR.evOpt (hs : SR w I L s a) {x : Option Operand} {v : Option FV} (h : Pay.evOpt s x = some v) : ORelO w I L v (x.map a.eval) := by
  cases x with
  | none => simp [Pay.evOpt] at h; subst h; rfl
  | some x =>
    simp only [Pay.evOpt, Option.map_eq_some_iff] at h
    obtain ⟨u, hu, rfl⟩ := h
    exact ⟨_, rfl, hs.evX hu⟩

theorem sliceBound_ok {k : IntKind} {n : Int} {y : Nat} {code : BoundsCode} (h0 : 0 ≤ n) (h1 : n.toNat ≤ y) : (Instr.sliceBound (.int k n) y code).run P w = .ok n.toNat w := by
  have : n ≤ (y : Int) := by omega
  simp [Instr.sliceBound, asIntOf, h0, this]

theorem bnd_some {d : Nat} {x : FV} {v : Value} {n : Nat} (hx : VRel w I L x v) (h : bnd d (some x) = some n) : ∃ k m, v = .int k m ∧ 0 ≤ m ∧ m.toNat = n := by
  unfold bnd at h
  split at h
  · rename_i he; cases he
  · rename_i k m he
    cases he
    split at h
    · rename_i h0
      cases h
      simp only [VRel, DRel] at hx
      exact ⟨k, m, hx, h0, rfl⟩
    · cases h
  · cases h

theorem sliceBounds_ok {w' : World} {isS : Bool} {len cap : Nat} {lo hi : Option FV} {vlo vhi : Option Value} {m n : Nat} (hlo : ORelO w I L lo vlo) (hhi : ORelO w I L hi vhi) (h1 : bnd 0 lo = some m) (h2 : bnd len hi = some n) (hmn : m ≤ n) (hn : n ≤ cap) :
    (Instr.sliceBounds isS len cap vlo vhi none).run P w' = .ok (m, n, cap) w' := by
  have hh : ∀ code, (match vhi with | some v => Instr.sliceBound v cap code | none => pure len : Sem Nat).run P w' = .ok n w' := by
    intro code
    cases hi with
    | none => simp only [ORelO] at hhi; subst hhi; simp [bnd] at h2; subst h2; rfl
    | some x =>
      simp only [ORelO] at hhi
      obtain ⟨u, rfl, hu⟩ := hhi
      obtain ⟨k, q, rfl, h0, rfl⟩ := bnd_some hu h2
      exact sliceBound_ok h0 hn
  have hl : ∀ code, (match vlo with | some v => Instr.sliceBound v n code | none => pure 0 : Sem Nat).run P w' = .ok m w' := by
    intro code
    cases lo with
    | none => simp only [ORelO] at hlo; subst hlo; simp [bnd] at h1; subst h1; rfl
    | some x =>
      simp only [ORelO] at hlo
      obtain ⟨u, rfl, hu⟩ := hlo
      obtain ⟨k, q, rfl, h0, rfl⟩ := bnd_some hu h1
      exact sliceBound_ok h0 hmn
  unfold Instr.sliceBounds
  have e1 := hh (if isS then .sliceAcap else .sliceAlen)
  have e2 := hl .sliceB
  cases vhi with
  | none =>
    simp only [Sem.run_pure, Result.ok.injEq, and_true] at e1
    subst e1
    cases vlo with
    | none => simp only [Sem.run_pure, Result.ok.injEq, and_true] at e2; subst e2; simp
    | some v => simp at e2; simp [e2]
  | some u =>
    simp only at e1
    cases vlo with
    | none => simp only [Sem.run_pure, Result.ok.injEq, and_true] at e2; subst e2; simp [e1]
    | some v => simp at e2; simp [e1, e2]

theorem run_sliceAt {t : TypeId} {d : TypeDesc} (hd : P.underlying t = some d) (hn : ∀ n e, d ≠ .array n e) (x : Value) (lo hi mx : Option Value) :
    (Instr.sliceAt t x lo hi mx).run P w = (Instr.slice t x lo hi mx).run P w := by
  unfold Instr.sliceAt
  simp only [Sem.run_bind, runU hd, Result.andThen_ok]

/-- A cut within an own row, as it stands. -/
theorem so_ok (hs : SR w I L s a) {id k e m n cap sz : Nat} {xs : List D} {l : Lay} {hd : Option Addr} (hS : s.S[id]? = some (.arr e k xs)) (hl : L[id]? = some l) (hh : l.hdr = some (hd, cap)) (hk : k = sz) (h1 : m ≤ n) (h2 : n ≤ cap) :
    ∃ ll hd' c, L[id]? = some ll ∧ Value.slice (if cap = m then hd else hd.map (·.add (m * sz))) (n - m) (cap - m) = .slice hd' (n - m) c ∧ n - m ≤ c ∧ (n - m = 0 ∨ ∃ b cap', ll = .a (some b) cap' ∧ hd' = some ⟨b, m * k, none⟩ ∧ cap' = m + c) := by
  refine ⟨l, _, _, hl, rfl, by omega, ?_⟩
  by_cases h0 : n - m = 0
  · exact .inl h0
  · right
    rcases hs.obs _ _ _ hS hl with ⟨base, cp, vs, rfl, hown, _⟩ | ⟨hd', rfl, _⟩
    · simp only [Lay.hdr, Option.some.injEq, Prod.mk.injEq] at hh
      obtain ⟨rfl, rfl⟩ := hh
      cases base with
      | none =>
        rcases hown.2 with ⟨h, _⟩ | ⟨g, cpp, cur, he, _⟩
        · simp [Lay.head] at h; omega
        · simp [Lay.head] at he
      | some b =>
        refine ⟨b, cp, rfl, ?_, by omega⟩
        rw [if_neg (by omega)]
        simp [Lay.head, Addr.add_lit, hk]
    · simp only [Lay.hdr, Option.some.injEq, Prod.mk.injEq] at hh
      omega

theorem evSl_ok (hT : TabOk P T) (hs : SR w I L s a) {t : TypeId} {x : FV} {lo hi : Option FV} {vx : Value} {vlo vhi : Option Value} {z : FV}
    (hx : VRel w I L x vx) (hlo : ORelO w I L lo vlo) (hhi : ORelO w I L hi vhi) (h : evSl T s t x lo hi = some z) :
    ∃ v, (∀ w' : World, (Instr.sliceAt t vx vlo vhi none).run P w' = .ok v w') ∧ VRel w I L z v := by
  unfold evSl at h
  simp only [Option.bind_eq_some_iff] at h
  obtain ⟨i, hti, h⟩ := h
  have hI := (hT _ _ hti).kind
  split at h
  · rename_i l hkd
    rw [hkd] at hI
    simp only [TKOk] at hI
    simp only [Option.bind_eq_some_iff] at h
    obtain ⟨m, hm, n, hn, h⟩ := h
    split at h
    · rename_i hc
      cases h
      simp only [VRel, DRel] at hx ⊢
      subst hx
      have hsz : (⟨l.toArray⟩ : ByteArray).size = l.length := by simp [ByteArray.size]
      have hb := fun w' => sliceBounds_ok (P := P) (w := w) (w' := w') (isS := false) (cap := l.length) hlo hhi hm hn hc.1 hc.2
      refine ⟨_, fun w' => ?_, rfl⟩
      rw [run_sliceAt hI (by intro n e h; cases h)]
      simp only [Instr.slice, Sem.run_bind, runU hI, Result.andThen_ok, hsz, hb, Option.isSome_none, Bool.false_eq_true, if_false, Sem.run_pure]
      congr 2
      rw [Lib.extract_eq]
    · cases h
  · rename_i e k xs hkd
    rw [hkd] at hI
    simp only [TKOk] at hI
    simp only [Option.bind_eq_some_iff] at h
    obtain ⟨ei, hei, h⟩ := h
    split at h
    · rename_i hk
      subst hk
      simp only [Option.bind_eq_some_iff] at h
      obtain ⟨m, hm, n, hn, h⟩ := h
      split at h
      · rename_i hc
        cases h
        simp only [VRel, DRel] at hx
        obtain ⟨base, c, rfl, hle, hx⟩ := hx
        have hb := fun w' => sliceBounds_ok (P := P) (w := w) (w' := w') (isS := true) (cap := c) hlo hhi hm hn hc.1 (by omega)
        refine ⟨.slice (if c = m then base else base.map (·.add (m * ei.size))) (n - m) (c - m), fun w' => ?_, ?_⟩
        · rw [run_sliceAt hI (by intro n e h; cases h)]
          simp only [Instr.slice, Sem.run_bind, runU hI, Result.andThen_ok, hb, (hT _ _ hei).sizeOf, Sem.run_pure]
        · simp only [VRel, DRel]
          have hlen : ((xs.drop m).take (n - m)).length = n - m := by rw [List.length_take, List.length_drop]; omega
          refine ⟨_, c - m, by rw [hlen], by omega, ?_⟩
          rcases hx with hx | ⟨b, o, vs, rfl, hb', hcc, hr⟩
          · exact .inl (by subst hx; simp)
          · by_cases hmn : m = n
            · exact .inl (by subst hmn; simp)
            · refine .inr ⟨b, o + m * ei.size, (vs.drop (m * ei.size)).take ((n - m) * ei.size), ?_, hb', cellsAt_take (cellsAt_drop hcc _) _, (hr.drop m).take (n - m)⟩
              rw [if_neg (by omega)]
              simp [Addr.add_lit]
      · cases h
    · cases h
  · rename_i e id n0 hkd
    rw [hkd] at hI
    simp only [TKOk] at hI
    simp only [Option.bind_eq_some_iff] at h
    obtain ⟨ei, hei, m, hm, n, hn, h⟩ := h
    split at h
    · rename_i e' k xs hS
      split at h
      · rename_i hc
        obtain ⟨hc0, hc1, hc2⟩ := hc
        simp only [VRel] at hx
        obtain ⟨ll, hd, cap, hl, hh, rfl⟩ := hx
        have hcap := (sl_cap hs hS hl hh).1
        have hb := fun w' => sliceBounds_ok (P := P) (w := w) (w' := w') (isS := true) (cap := cap) hlo hhi hm hn hc0 (by omega)
        split at h
        · cases h
          simp only [bnd, Option.some.injEq] at hm
          subst hm
          simp only [VRel]
          refine ⟨_, fun w' => ?_, ll, hd, cap, hl, hh, rfl⟩
          rw [run_sliceAt hI (by intro n e h; cases h)]
          simp only [Instr.slice, Sem.run_bind, runU hI, Result.andThen_ok, hb, (hT _ _ hei).sizeOf, Sem.run_pure, Nat.zero_mul, Nat.sub_zero]
          congr 2
          cases hd <;> simp [Addr.add_zero']
        · split at h
          · rename_i hk
            cases h
            simp only [VRel]
            refine ⟨_, fun w' => ?_, so_ok hs hS hl hh hk hc0 (by omega)⟩
            rw [run_sliceAt hI (by intro n e h; cases h)]
            simp only [Instr.slice, Sem.run_bind, runU hI, Result.andThen_ok, hb, (hT _ _ hei).sizeOf, Sem.run_pure]
          · cases h
      · cases h
    · cases h
  · rename_i e id n0 cap hkd
    rw [hkd] at hI
    simp only [TKOk] at hI
    simp only [Option.bind_eq_some_iff] at h
    obtain ⟨ei, hei, m, hm, n, hn, h⟩ := h
    split at h
    · rename_i e' k xs hS
      split at h
      · rename_i hc
        obtain ⟨hc0, hc1⟩ := hc
        simp only [VRel] at hx
        obtain ⟨ll, hd, hl, hh, rfl⟩ := hx
        have hb := fun w' => sliceBounds_ok (P := P) (w := w) (w' := w') (isS := true) (cap := cap) hlo hhi hm hn hc0 hc1
        split at h
        · cases h
          simp only [bnd, Option.some.injEq] at hm
          subst hm
          simp only [VRel]
          refine ⟨_, fun w' => ?_, ll, hd, hl, hh, rfl⟩
          rw [run_sliceAt hI (by intro n e h; cases h)]
          simp only [Instr.slice, Sem.run_bind, runU hI, Result.andThen_ok, hb, (hT _ _ hei).sizeOf, Sem.run_pure, Nat.zero_mul, Nat.sub_zero]
          congr 2
          cases hd <;> simp [Addr.add_zero']
        · split at h
          · rename_i hk
            cases h
            simp only [VRel]
            refine ⟨_, fun w' => ?_, so_ok hs hS hl hh hk hc0 hc1⟩
            rw [run_sliceAt hI (by intro n e h; cases h)]
            simp only [Instr.slice, Sem.run_bind, runU hI, Result.andThen_ok, hb, (hT _ _ hei).sizeOf, Sem.run_pure]
          · cases h
      · cases h
    · cases h
  · cases h

theorem u8s_ok : ∀ {xs : List D} {vs : List Value} {l : List UInt8}, DRelR w I 1 xs vs → u8s xs = some l → vs.length = l.length ∧ ∀ (j : Nat) (b : UInt8), l[j]? = some b → ∃ n, vs[j]? = some (.int .u8 n) ∧ b = UInt8.ofNat n.toNat
  | [], vs, l, h, hl => by simp only [DRelR] at h; subst h; simp [u8s] at hl; subst hl; simp
  | x :: xs, vs, l, h, hl => by
    simp only [DRelR] at h
    obtain ⟨v, r, rfl, hk, h1, h2⟩ := h
    unfold u8s at hl
    split at hl
    · rename_i he; cases he
    · rename_i n q he
      cases he
      simp only [Option.map_eq_some_iff] at hl
      obtain ⟨l', hl', rfl⟩ := hl
      simp only [DRel] at h1
      subst h1
      obtain ⟨e1, e2⟩ := u8s_ok h2 hl'
      refine ⟨by simp [Value.cells, e1], fun j b hb => ?_⟩
      cases j with
      | zero => simp at hb; subst hb; exact ⟨n, by simp [Value.cells], rfl⟩
      | succ j => simpa [Value.cells] using e2 j b (by simpa using hb)
    · cases hl

theorem pushBytes {f : Value → ByteArray → Sem (ForInStep ByteArray)} (hf : ∀ n s, (f (.int .u8 n) s).run P w = .ok (.yield (s.push (UInt8.ofNat n.toNat))) w) :
    ∀ (vs : List Value) (l : List UInt8) (acc : ByteArray), vs.length = l.length → (∀ (j : Nat) (b : UInt8), l[j]? = some b → ∃ n, vs[j]? = some (.int .u8 n) ∧ b = UInt8.ofNat n.toNat) →
    (forIn (m := Sem) vs acc f).run P w = .ok ⟨acc.data ++ l.toArray⟩ w
  | [], l, acc, hlen, _ => by
    have : l = [] := List.eq_nil_of_length_eq_zero (by simpa using hlen.symm)
    subst this
    simp
  | v :: r, [], acc, hlen, _ => by simp at hlen
  | v :: r, b :: l, acc, hlen, h => by
    obtain ⟨n, hv, hb⟩ := h 0 b rfl
    simp at hv
    subst hv
    have ih := pushBytes hf r l (acc.push (UInt8.ofNat n.toNat)) (by simpa using hlen) (fun j b hb => by simpa using h (j + 1) b (by simpa using hb))
    simp only [List.forIn_cons, Sem.run_bind, hf, Result.andThen_ok, ih]
    congr 2
    subst hb
    simp [ByteArray.push]

theorem run_bytesToString {b o : Nat} {vs : List Value} {l : List UInt8} {cap : Nat} (hc : CellsAt w b o vs) (hlen : vs.length = l.length)
    (h : ∀ (j : Nat) (c : UInt8), l[j]? = some c → ∃ n, vs[j]? = some (.int .u8 n) ∧ c = UInt8.ofNat n.toNat) :
    (Conv.bytesToString (.slice (some ⟨b, o, none⟩) l.length cap)).run P w = .ok (.string ⟨l.toArray⟩) w := by
  have hr := run_loadCells_list (P := P) w ⟨b, o, none⟩ vs (fun j v hv => by have := hc j v hv; simpa [Addr.add_lit] using this)
  rw [hlen] at hr
  simp only [Conv.bytesToString, Sem.run_bind, hr, Result.andThen_ok]
  rw [← Array.forIn_toList]
  rw [pushBytes (P := P) (w := w) (fun n s => by simp) vs l _ hlen h]
  simp [ByteArray.empty, ByteArray.emptyWithCapacity]
  rfl

theorem evCv_ok (hT : TabOk P T) (hs : SR w I L s a) {src dst : TypeId} {x : FV} {vx : Value} {z : FV} (hx : VRel w I L x vx) (h : evCv T s src dst x = some z) :
    ∃ v, (∀ w' : World, Agree w w' I (owns s.S L) → (convert src dst vx).run P w' = .ok v w') ∧ VRel w I L z v := by
  unfold evCv at h
  simp only [Option.bind_eq_some_iff] at h
  obtain ⟨i, hi, j, hj, h⟩ := h
  have hI := (hT _ _ hi).kind
  have hJ := (hT _ _ hj).kind
  have hsrc : ∃ d, P.underlying src = some d := by
    cases hkd : i.kind <;> rw [hkd] at hI <;> simp only [TKOk] at hI
    case struct => obtain ⟨f, hf, _⟩ := hI; exact ⟨_, hf⟩
    case iface => obtain ⟨f, hf⟩ := hI; exact ⟨_, hf⟩
    case other => obtain ⟨d, hd, _⟩ := hI; exact ⟨_, hd⟩
    all_goals exact ⟨_, hI⟩
  obtain ⟨ds, hds⟩ := hsrc
  split at h
  · rename_i k k' n hkd
    rw [hkd] at hJ; simp only [TKOk] at hJ
    cases h
    simp only [VRel, DRel] at hx ⊢
    subst hx
    exact ⟨_, fun w' hg => by simp [convert, runU hds, runU hJ, Conv.intToInt], rfl⟩
  · rename_i k k' n hkd
    rw [hkd] at hJ; simp only [TKOk] at hJ
    cases h
    simp only [VRel, DRel] at hx ⊢
    subst hx
    exact ⟨_, fun w' hg => by simp [convert, runU hds, runU hJ, Conv.intToFloat], rfl⟩
  · rename_i k f b hkd
    rw [hkd] at hJ; simp only [TKOk] at hJ
    simp only [VRel, DRel] at hx
    subst hx
    split at h
    · rename_i n hn
      split at h
      · rename_i hc
        cases h
        simp only [VRel, DRel]
        exact ⟨_, fun w' hg => by simp [convert, runU hds, runU hJ, Conv.floatToInt, hn, hc], rfl⟩
      · cases h
    · cases h
  · rename_i l hkd
    rw [hkd] at hJ; simp only [TKOk] at hJ
    split at h
    · rename_i hki
      rw [hki] at hI; simp only [TKOk] at hI
      cases h
      simp only [VRel, DRel] at hx ⊢
      subst hx
      exact ⟨_, fun w' hg => by simp [convert, runU hI, runU hJ], rfl⟩
    · cases h
  · rename_i k xs hkd
    rw [hkd] at hJ; simp only [TKOk] at hJ
    split at h
    · rename_i e hki
      rw [hki] at hI; simp only [TKOk] at hI
      split at h
      · rename_i e1 e2 e3 hte
        have hE := (hT _ _ hte).kind
        simp only [TKOk] at hE
        split at h
        · rename_i hk; subst hk
          simp only [Option.map_eq_some_iff] at h
          obtain ⟨l, hl, rfl⟩ := h
          simp only [VRel, DRel] at hx ⊢
          obtain ⟨base, c, rfl, _, hx⟩ := hx
          refine ⟨_, fun w' hg => ?_, rfl⟩
          rcases hx with hx | ⟨b, o, vs, rfl, hIb, hc, hr⟩
          · subst hx
            simp [u8s] at hl; subst hl
            cases base with
            | none => simp [convert, runU hI, runU hJ, runU hE, Conv.bytesToString]; rfl
            | some ad => simp [convert, runU hI, runU hJ, runU hE, Conv.bytesToString, loadCells, loadCellsFrom]; rfl
          · obtain ⟨hlen, hb⟩ := u8s_ok hr hl
            have hlx : xs.length = l.length := by have := hr.length; omega
            have := run_bytesToString (P := P) (cap := c) (cellsAt_of_block (hg b (.inl hIb)) hc) hlen hb
            rw [← hlx] at this
            simp [convert, runU hI, runU hJ, runU hE, this]
        · cases h
      · cases h
    · cases h
  · rename_i id n hkd
    rw [hkd] at hJ; simp only [TKOk] at hJ
    split at h
    · rename_i e hki
      rw [hki] at hI; simp only [TKOk] at hI
      split at h
      · rename_i e1 e2 e3 hte
        have hE := (hT _ _ hte).kind
        simp only [TKOk] at hE
        split at h
        · rename_i e' k xs hS
          split at h
          · rename_i hk
            obtain ⟨rfl, rfl⟩ := hk
            simp only [Option.map_eq_some_iff] at h
            obtain ⟨l, hl, rfl⟩ := h
            simp only [VRel, DRel] at hx ⊢
            obtain ⟨ll, hd, cap, hL, hh, rfl⟩ := hx
            refine ⟨_, fun w' hg => ?_, rfl⟩
            have emp : ∀ l' : List UInt8, l' = [] → xs = [] → (convert src dst (.slice hd xs.length cap)).run P w' = .ok (.string ⟨l'.toArray⟩) w' := by
              intro l' e1 e2
              subst e1; subst e2
              cases hd with
              | none => simp [convert, runU hI, runU hJ, runU hE, Conv.bytesToString]; rfl
              | some ad => simp [convert, runU hI, runU hJ, runU hE, Conv.bytesToString, loadCells, loadCellsFrom]; rfl
            rcases hs.obs _ _ _ hS hL with ⟨base', cp, vs, he, hown, hr⟩ | ⟨hd', rfl, rfl⟩
            rotate_left
            · simp [u8s] at hl; exact emp _ hl rfl
            cases he
            simp only [Lay.hdr, Option.some.injEq, Prod.mk.injEq] at hh
            obtain ⟨rfl, rfl⟩ := hh
            obtain ⟨hlen, hb⟩ := u8s_ok hr hl
            have hlx : xs.length = l.length := by have := hr.length; omega
            by_cases h0 : 0 < vs.length
            · obtain ⟨b, rfl, hc⟩ := ownsRow_cells hown h0
              have := run_bytesToString (P := P) (cap := cp) (cellsAt_of_block (hg b (.inr (owns_mem hS hL b (by simp [own])))) hc) hlen hb
              rw [← hlx] at this
              simp [convert, runU hI, runU hJ, runU hE, Lay.head, this]
            · exact emp _ (List.eq_nil_of_length_eq_zero (by omega)) (List.eq_nil_of_length_eq_zero (by omega))
          · cases h
        · cases h
      · cases h
    · cases h
  · cases h

theorem evUn_ok {op : UnOp} {x : FV} {vx : Value} {z : FV} (hx : VRel w I L x vx) (h : evUn op x = some z) : ∃ v, (∀ w' : World, (Op.unary op vx).run P w' = .ok v w') ∧ VRel w I L z v := by
  unfold evUn at h
  split at h
  · cases h; simp only [VRel, DRel] at hx ⊢; subst hx; exact ⟨_, fun _ => by simp [Op.unary, Op.intArith], rfl⟩
  · cases h; simp only [VRel, DRel] at hx ⊢; subst hx; exact ⟨_, fun _ => by simp [Op.unary], rfl⟩
  · cases h

theorem SR.evXs (hs : SR w I L s a) : ∀ {xs : List Operand} {vs : List FV}, Pay.evXs s xs = some vs → VRelL w I L vs (xs.map a.eval)
  | [], vs, h => by simp [Pay.evXs] at h; subst h; simp [VRelL]
  | x :: r, vs, h => by
    simp only [Pay.evXs, Option.bind_eq_some_iff, Option.map_eq_some_iff] at h
    obtain ⟨v, hv, us, hu, rfl⟩ := h
    simp only [List.map_cons, VRelL]
    exact ⟨_, _, rfl, hs.evX hv, hs.evXs hu⟩

theorem mxI_ok {w' : World} {k : IntKind} : ∀ {r : List FV} {vs : List Value} {x n : Int}, VRelL w I L r vs → mxI k x r = some n → (vs.foldlM Builtin.max2 (.int k x)).run P w' = .ok (.int k n) w'
  | [], vs, x, n, h, hn => by simp only [VRelL] at h; subst h; simp [mxI] at hn; subst hn; rfl
  | c :: r, vs, x, n, h, hn => by
    simp only [VRelL] at h
    obtain ⟨v, q, rfl, h1, h2⟩ := h
    unfold mxI at hn
    split at hn
    · rename_i he; cases he
    · rename_i k' y r' he
      cases he
      split at hn
      · rename_i hk; subst hk
        simp only [VRel, DRel] at h1
        subst h1
        simp only [List.foldlM_cons, Builtin.max2, Sem.run_bind, Sem.run_pure, Result.andThen_ok]
        rw [show (if y > x then y else x) = max x y from by split <;> omega]
        exact mxI_ok h2 hn
      · cases hn
    · cases hn
theorem mnI_ok {w' : World} {k : IntKind} : ∀ {r : List FV} {vs : List Value} {x n : Int}, VRelL w I L r vs → mnI k x r = some n → (vs.foldlM Builtin.min2 (.int k x)).run P w' = .ok (.int k n) w'
  | [], vs, x, n, h, hn => by simp only [VRelL] at h; subst h; simp [mnI] at hn; subst hn; rfl
  | c :: r, vs, x, n, h, hn => by
    simp only [VRelL] at h
    obtain ⟨v, q, rfl, h1, h2⟩ := h
    unfold mnI at hn
    split at hn
    · rename_i he; cases he
    · rename_i k' y r' he
      cases he
      split at hn
      · rename_i hk; subst hk
        simp only [VRel, DRel] at h1
        subst h1
        simp only [List.foldlM_cons, Builtin.min2, Sem.run_bind, Sem.run_pure, Result.andThen_ok]
        rw [show (if y < x then y else x) = min x y from by split <;> omega]
        exact mnI_ok h2 hn
      · cases hn
    · cases hn

theorem evBu_ok (hT : TabOk P T) {b : Builtin} {ts : Array TypeId} {ty : TypeId} {cs : Array Bool} {args : List FV} {vs : List Value} {z : FV} (hx : VRelL w I L args vs) (h : evBu T s b ts args = some z) :
    ∃ v, (∀ w' : World, (builtin b ts ty cs vs.toArray).run P w' = .ok (.value v) w') ∧ VRel w I L z v := by
  unfold evBu at h
  split at h
  · rename_i x
    simp only [VRelL] at hx
    obtain ⟨vx, r, rfl, hx, rfl⟩ := hx
    simp only [Option.bind_eq_some_iff] at h
    obtain ⟨t, ht, i, hti, h⟩ := h
    have hI := (hT _ _ hti).kind
    split at h
    · rename_i l hkd
      rw [hkd] at hI; simp only [TKOk] at hI
      simp [lenV] at h; subst h
      simp only [VRel, DRel] at hx ⊢
      subst hx
      have hsz : (⟨l.toArray⟩ : ByteArray).size = l.length := by simp [ByteArray.size]
      refine ⟨_, fun _ => ?_, rfl⟩
      simp only [builtin, Builtin.len_, List.getElem?_toArray, List.getElem?_cons_zero, ht, runU hI, goInt, Sem.run_bind, Sem.run_pure, Result.andThen_ok, hsz]
    · rename_i e k xs hkd
      rw [hkd] at hI; simp only [TKOk] at hI
      simp [lenV] at h; subst h
      simp only [VRel, DRel] at hx ⊢
      obtain ⟨base, c, rfl, _, _⟩ := hx
      exact ⟨_, fun _ => by simp [builtin, Builtin.len_, ht, runU hI, goInt], rfl⟩
    · rename_i e hkd
      rw [hkd] at hI; simp only [TKOk] at hI
      simp [lenV] at h; subst h
      simp only [VRel, DRel] at hx ⊢
      subst hx
      exact ⟨_, fun _ => by simp [builtin, Builtin.len_, ht, runU hI, goInt], rfl⟩
    · rename_i e id n hkd
      rw [hkd] at hI; simp only [TKOk] at hI
      simp [lenV] at h; subst h
      simp only [VRel, DRel] at hx ⊢
      obtain ⟨ll, base, c, _, _, rfl⟩ := hx
      exact ⟨_, fun _ => by simp [builtin, Builtin.len_, ht, runU hI, goInt], rfl⟩
    · rename_i e id k off n hkd
      rw [hkd] at hI; simp only [TKOk] at hI
      simp [lenV] at h; subst h
      simp only [VRel, DRel] at hx ⊢
      obtain ⟨ll, base, c, _, rfl, _⟩ := hx
      exact ⟨_, fun _ => by simp [builtin, Builtin.len_, ht, runU hI, goInt], rfl⟩
    · rename_i n e hkd
      rw [hkd] at hI; simp only [TKOk] at hI
      cases h
      simp only [VRel, DRel]
      refine ⟨_, fun _ => ?_, rfl⟩
      simp [builtin, Builtin.len_, ht, runU hI, goInt]
    · cases h
  · rename_i id n c
    simp only [VRelL] at hx
    obtain ⟨vx, r, rfl, hx, rfl⟩ := hx
    simp only [Option.bind_eq_some_iff] at h
    obtain ⟨t, ht, i, hti, h⟩ := h
    have hI := (hT _ _ hti).kind
    split at h
    · rename_i e hkd
      rw [hkd] at hI; simp only [TKOk] at hI
      cases h
      simp only [VRel, DRel] at hx ⊢
      obtain ⟨ll, base, _, _, rfl⟩ := hx
      exact ⟨_, fun _ => by simp [builtin, Builtin.cap_, ht, runU hI, goInt], rfl⟩
    · cases h
  · rename_i k x r
    simp only [VRelL] at hx
    obtain ⟨vx, q, rfl, hx, h2⟩ := hx
    simp only [VRel, DRel] at hx
    subst hx
    simp only [Option.map_eq_some_iff] at h
    obtain ⟨n, hn, rfl⟩ := h
    exact ⟨.int k n, fun _ => by simp [builtin, Builtin.max_, mxI_ok h2 hn], by simp only [VRel, DRel]⟩
  · rename_i k x r
    simp only [VRelL] at hx
    obtain ⟨vx, q, rfl, hx, h2⟩ := hx
    simp only [VRel, DRel] at hx
    subst hx
    simp only [Option.map_eq_some_iff] at h
    obtain ⟨n, hn, rfl⟩ := h
    exact ⟨.int k n, fun _ => by simp [builtin, Builtin.min_, mnI_ok h2 hn], by simp only [VRel, DRel]⟩
  · simp only [VRelL] at hx
    obtain ⟨vx, q, rfl, hx, rfl⟩ := hx
    simp only [VRel, DRel] at hx
    subst hx
    cases h
    exact ⟨_, fun _ => rfl, by simp only [VRel, DRel]⟩
  · simp only [VRelL] at hx
    obtain ⟨vx, q, rfl, hx, rfl⟩ := hx
    simp only [VRel, DRel] at hx
    subst hx
    cases h
    exact ⟨_, fun _ => rfl, by simp only [VRel, DRel]⟩
  · simp only [VRelL] at hx
    obtain ⟨vx, q, rfl, hx, vy, q', rfl, hy, rfl⟩ := hx
    simp only [VRel, DRel] at hx hy
    subst hx; subst hy
    split at h
    · rename_i hk; subst hk
      cases h
      rename_i k m n
      have : Builtin.complex_ ts ty #[.float k m, .float k n] = pure (.complex k m n) := by
        show (if k = k then _ else _) = _
        rw [if_pos rfl]
      exact ⟨.complex k m n, fun _ => by simp only [builtin, this]; rfl, by simp only [VRel, DRel]⟩
    · cases h
  · cases h

end
end Go.Proofs.Ytaobnhenjldjeaa.Pay
