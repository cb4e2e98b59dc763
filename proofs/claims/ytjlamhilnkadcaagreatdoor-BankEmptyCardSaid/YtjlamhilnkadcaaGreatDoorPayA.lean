/- The abstract data of this seat's proofs: data by value, values of a frame, objects; and how they stand in a world. No statement of the seed is proved here. -/
import Derived.WalkKit
import Derived.WideLaws
import Derived.Laws.AppendOwn
import Derived.Laws.OwnMore
import Derived.Laws.MakeOwn
import Derived.Laws.Rows
import Derived.Laws.Tables
import Derived.Below
namespace Go.Proofs.YtjlamhilnkadcaaGreatDoor.Pay
open Go Go.RowKit
set_option linter.unusedVariables false
set_option linter.unusedSimpArgs false

/-- Data by value. A struct is its cells, flat. -/
inductive D where
  | bool (b : Bool)
  | int (k : IntKind) (n : Int)
  | str (s : List UInt8)
  | flt (k : FloatKind) (b : Nat)
  | cpx (k : FloatKind) (re im : Nat)
  | nil
  | list (k : Nat) (xs : List D)
  | agg (cs : List D)
  | nilp
  | nili
  | any
  | nilm
  | map (ks es : List D)
  deriving Inhabited

/-- The cells of an element. -/
def D.cs : D → List D
  | .agg cs => cs
  | x => [x]

def CellsAt (w : World) (b o : Nat) (vs : List Value) : Prop := ∀ j v, vs[j]? = some v → w.cell? ⟨b, o + j, none⟩ = some v
def Ones (vs : List Value) : Prop := ∀ v ∈ vs, v.oneCell' = true

/-- A map of which nothing was ever taken: its entries bear their places as stamps. -/
def BornOk (ents : Array MapEntry) (clock : Nat) : Prop := clock = ents.size ∧ ∀ (i : Nat) (e : MapEntry), ents[i]? = some e → e.born = i

mutual
def DRel (w : World) (I : Nat → Prop) : D → Value → Prop
  | .bool b, v => v = .bool b
  | .int k n, v => v = .int k n
  | .str s, v => v = .string ⟨s.toArray⟩
  | .flt k b, v => v = .float k b
  | .cpx k a b, v => v = .complex k a b
  | .nil, v => v = .slice none 0 0
  | .list k xs, v => ∃ base c, v = .slice base xs.length c ∧ xs.length ≤ c ∧ (xs = [] ∨ ∃ b o vs, base = some ⟨b, o, none⟩ ∧ I b ∧ CellsAt w b o vs ∧ DRelR w I k xs vs)
  | .agg cs, v => ∃ vs : List Value, v = .agg vs.toArray ∧ Ones vs ∧ DRelL w I cs vs
  | .nilp, v => v = .pointer none
  | .nili, v => v = .nilIface
  | .any, v => ∃ t u, v = .iface t u
  | .nilm, v => v = .map none
  | .map ks es, v => ∃ r ents clock, v = .map (some r) ∧ I r ∧ w.heap[r]? = some (.map ents clock) ∧ BornOk ents clock ∧ DRelL w I ks (ents.toList.map (·.key)) ∧ DRelL w I es (ents.toList.map (·.val))
def DRelL (w : World) (I : Nat → Prop) : List D → List Value → Prop
  | [], vs => vs = []
  | c :: cs, vs => ∃ v r, vs = v :: r ∧ DRel w I c v ∧ DRelL w I cs r
def DRelR (w : World) (I : Nat → Prop) (k : Nat) : List D → List Value → Prop
  | [], vs => vs = []
  | x :: xs, vs => ∃ v r, vs = v.cells.toList ++ r ∧ v.cells.size = k ∧ DRel w I x v ∧ DRelR w I k xs r
end

/-- Values of a frame: data, or what leads to an object of the frame's store. -/
inductive FV where
  | d (x : D)
  | ref (id off : Nat)
  | sl (id n : Nat)
  | er (id k i off : Nat)
  | dp (cs : List D)
  | agg (cs : List FV)
  | fn (f : FuncId) (caps : List FV)
  | tup (vs : List FV)
  | mp (id : Nat)
  | so (id k off n : Nat)
  | sc (id n c : Nat)
  | dead
  deriving Inhabited

inductive Ob where
  | cells (t : TypeId) (cs : List FV)
  | arr (e : TypeId) (k : Nat) (xs : List D)
  | frz (k : Nat) (xs : List D)
  | map (ks es : List D)
  | fmap (ks es : List D)
  | iter (ks es : List D) (seen : List Nat)
  | gone
  deriving Inhabited

/-- Where an object lies. -/
inductive Lay where
  | c (b : Nat)
  | a (base : Option Nat) (cap : Nat)
  | z (hd : Option Addr)
  | m (r : Nat)

def Lay.head (base : Option Nat) : Option Addr := base.map fun b => ⟨b, 0, none⟩
/-- A row's address, and its capacity. -/
def Lay.hdr : Lay → Option (Option Addr × Nat)
  | .a base cap => some (Lay.head base, cap)
  | .z hd => some (hd, 0)
  | _ => none

mutual
def VRel (w : World) (I : Nat → Prop) (L : List Lay) : FV → Value → Prop
  | .d x, v => DRel w I x v
  | .ref id off, v => ∃ b, L[id]? = some (.c b) ∧ v = .pointer (some ⟨b, off, none⟩)
  | .sl id n, v => ∃ l hd cap, L[id]? = some l ∧ l.hdr = some (hd, cap) ∧ v = .slice hd n cap
  | .er id k i off, v => ∃ b cap, L[id]? = some (.a (some b) cap) ∧ v = .pointer (some ⟨b, i * k + off, none⟩)
  | .dp cs, v => ∃ b o vs, v = .pointer (some ⟨b, o, none⟩) ∧ I b ∧ CellsAt w b o vs ∧ Ones vs ∧ DRelL w I cs vs
  | .agg cs, v => ∃ vs : List Value, v = .agg vs.toArray ∧ Ones vs ∧ VRelL w I L cs vs
  | .fn f caps, v => ∃ vs : List Value, v = .func (.func f) #[] vs.toArray ∧ VRelL w I L caps vs
  | .tup cs, v => ∃ vs : List Value, v = .tuple vs.toArray ∧ VRelL w I L cs vs
  | .mp id, v => ∃ r, L[id]? = some (.m r) ∧ v = .map (some r)
  | .so id k off n, v => ∃ l hd c, L[id]? = some l ∧ v = .slice hd n c ∧ n ≤ c ∧ (n = 0 ∨ ∃ b cap, l = .a (some b) cap ∧ hd = some ⟨b, off * k, none⟩ ∧ cap = off + c)
  | .sc id n c, v => ∃ l hd, L[id]? = some l ∧ l.hdr = some (hd, c) ∧ v = .slice hd n c
  | .dead, _ => True
def VRelL (w : World) (I : Nat → Prop) (L : List Lay) : List FV → List Value → Prop
  | [], vs => vs = []
  | c :: cs, vs => ∃ v r, vs = v :: r ∧ VRel w I L c v ∧ VRelL w I L cs r
end

def ORel (w : World) (I : Nat → Prop) (L : List Lay) : Ob → Lay → Prop
  | .cells t cs, l => ∃ b, ∃ vs : List Value, l = .c b ∧ w.heap[b]? = some (.cells vs.toArray t (0, 0)) ∧ Ones vs ∧ VRelL w I L cs vs
  | .arr e k xs, l => (∃ base cap vs, l = .a base cap ∧ w.ownsRow 0 e k (.slice (Lay.head base) xs.length cap) xs.length vs ∧ DRelR w I k xs vs) ∨ (∃ hd, l = .z hd ∧ xs = [])
  | .frz k xs, l => ∃ hd cap, l.hdr = some (hd, cap) ∧ DRel w I (.list k xs) (.slice hd xs.length cap)
  | .map ks es, l => ∃ r ents clock, l = .m r ∧ w.heap[r]? = some (.map ents clock) ∧ BornOk ents clock ∧ DRelL w I ks (ents.toList.map (·.key)) ∧ DRelL w I es (ents.toList.map (·.val))
  | .fmap ks es, l => ∃ r, l = .m r ∧ DRel w I (.map ks es) (.map (some r))
  | .iter ks es seen, l => ∃ b r ents, l = .c b ∧ w.heap[b]? = some (.mapIter (some r) ents.size seen.toArray ents.size) ∧ I r ∧ w.heap[r]? = some (.map ents ents.size) ∧ BornOk ents ents.size ∧ (∀ i ∈ seen, i < ents.size) ∧
      DRelL w I ks (ents.toList.map (·.key)) ∧ DRelL w I es (ents.toList.map (·.val))
  | .gone, _ => True

/-- The blocks that an object may write. -/
def own : Ob → Lay → List Nat
  | .cells _ _, .c b => [b]
  | .arr _ _ _, .a (some b) _ => [b]
  | .map _ _, .m r => [r]
  | .iter _ _ _, .c b => [b]
  | _, _ => []
def owns : List Ob → List Lay → List Nat
  | o :: S, l :: L => own o l ++ owns S L
  | _, _ => []

/-! ### What holds of more worlds -/

theorem cellsAt_of_block {w w' : World} {b o : Nat} {vs : List Value} (h : w'.heap[b]? = w.heap[b]?) (hc : CellsAt w b o vs) : CellsAt w' b o vs :=
  fun j v hv => (World.cell?_of_block (a := ⟨b, o + j, none⟩) h).trans (hc j v hv)

section
variable {w w' : World} {I I' : Nat → Prop}
mutual
theorem DRel.mono (hw : ∀ b, I b → w'.heap[b]? = w.heap[b]?) (hI : ∀ b, I b → I' b) : ∀ (x : D) (v : Value), DRel w I x v → DRel w' I' x v
  | .bool _, v, h => by simpa [DRel] using h
  | .int _ _, v, h => by simpa [DRel] using h
  | .str _, v, h => by simpa [DRel] using h
  | .flt _ _, v, h => by simpa [DRel] using h
  | .cpx _ _ _, v, h => by simpa [DRel] using h
  | .nil, v, h => by simpa [DRel] using h
  | .list k xs, v, h => by
    simp only [DRel] at h ⊢
    obtain ⟨base, c, hv, hle, h⟩ := h
    refine ⟨base, c, hv, hle, ?_⟩
    rcases h with h | ⟨b, o, vs, hb, hi, hc, hr⟩
    · exact .inl h
    · exact .inr ⟨b, o, vs, hb, hI b hi, cellsAt_of_block (hw b hi) hc, DRelR.mono hw hI k xs vs hr⟩
  | .agg cs, v, h => by
    simp only [DRel] at h ⊢
    obtain ⟨vs, hv, ho, h⟩ := h
    exact ⟨vs, hv, ho, DRelL.mono hw hI cs vs h⟩
  | .nilp, v, h => by simpa [DRel] using h
  | .nili, v, h => by simpa [DRel] using h
  | .any, v, h => by simpa [DRel] using h
  | .nilm, v, h => by simpa [DRel] using h
  | .map ks es, v, h => by
    simp only [DRel] at h ⊢
    obtain ⟨r, ents, clock, hv, hi, hr, hb, h1, h2⟩ := h
    exact ⟨r, ents, clock, hv, hI r hi, (hw r hi).trans hr, hb, DRelL.mono hw hI ks _ h1, DRelL.mono hw hI es _ h2⟩
theorem DRelL.mono (hw : ∀ b, I b → w'.heap[b]? = w.heap[b]?) (hI : ∀ b, I b → I' b) : ∀ (cs : List D) (vs : List Value), DRelL w I cs vs → DRelL w' I' cs vs
  | [], vs, h => by simpa [DRelL] using h
  | c :: cs, vs, h => by
    simp only [DRelL] at h ⊢
    obtain ⟨v, r, hv, h1, h2⟩ := h
    exact ⟨v, r, hv, DRel.mono hw hI c v h1, DRelL.mono hw hI cs r h2⟩
theorem DRelR.mono (hw : ∀ b, I b → w'.heap[b]? = w.heap[b]?) (hI : ∀ b, I b → I' b) : ∀ (k : Nat) (cs : List D) (vs : List Value), DRelR w I k cs vs → DRelR w' I' k cs vs
  | k, [], vs, h => by simpa [DRelR] using h
  | k, c :: cs, vs, h => by
    simp only [DRelR] at h ⊢
    obtain ⟨v, r, hv, hk, h1, h2⟩ := h
    exact ⟨v, r, hv, hk, DRel.mono hw hI c v h1, DRelR.mono hw hI k cs r h2⟩
end

variable {L L' : List Lay}
mutual
theorem VRel.mono (hw : ∀ b, I b → w'.heap[b]? = w.heap[b]?) (hI : ∀ b, I b → I' b) (hL : ∀ (i : Nat) (l : Lay), L[i]? = some l → L'[i]? = some l) :
    ∀ (x : FV) (v : Value), VRel w I L x v → VRel w' I' L' x v
  | .d x, v, h => by simp only [VRel] at h ⊢; exact DRel.mono hw hI x v h
  | .ref id off, v, h => by
    simp only [VRel] at h ⊢
    obtain ⟨b, hb, hv⟩ := h
    exact ⟨b, hL _ _ hb, hv⟩
  | .sl id n, v, h => by
    simp only [VRel] at h ⊢
    obtain ⟨l, b, c, hb, hv⟩ := h
    exact ⟨l, b, c, hL _ _ hb, hv⟩
  | .er id k i off, v, h => by
    simp only [VRel] at h ⊢
    obtain ⟨b, c, hb, hv⟩ := h
    exact ⟨b, c, hL _ _ hb, hv⟩
  | .dp cs, v, h => by
    simp only [VRel] at h ⊢
    obtain ⟨b, o, vs, hv, hi, hc, ho, hr⟩ := h
    exact ⟨b, o, vs, hv, hI b hi, cellsAt_of_block (hw b hi) hc, ho, DRelL.mono hw hI cs vs hr⟩
  | .agg cs, v, h => by
    simp only [VRel] at h ⊢
    obtain ⟨vs, hv, ho, hr⟩ := h
    exact ⟨vs, hv, ho, VRelL.mono hw hI hL cs vs hr⟩
  | .fn f cs, v, h => by
    simp only [VRel] at h ⊢
    obtain ⟨vs, hv, hr⟩ := h
    exact ⟨vs, hv, VRelL.mono hw hI hL cs vs hr⟩
  | .tup cs, v, h => by
    simp only [VRel] at h ⊢
    obtain ⟨vs, hv, hr⟩ := h
    exact ⟨vs, hv, VRelL.mono hw hI hL cs vs hr⟩
  | .mp id, v, h => by
    simp only [VRel] at h ⊢
    obtain ⟨r, hb, hv⟩ := h
    exact ⟨r, hL _ _ hb, hv⟩
  | .so id k off n, v, h => by
    simp only [VRel] at h ⊢
    obtain ⟨l, hd, c, hl, hv⟩ := h
    exact ⟨l, hd, c, hL _ _ hl, hv⟩
  | .sc id n c, v, h => by
    simp only [VRel] at h ⊢
    obtain ⟨l, hd, hl, hv⟩ := h
    exact ⟨l, hd, hL _ _ hl, hv⟩
  | .dead, v, h => by simp only [VRel]
theorem VRelL.mono (hw : ∀ b, I b → w'.heap[b]? = w.heap[b]?) (hI : ∀ b, I b → I' b) (hL : ∀ (i : Nat) (l : Lay), L[i]? = some l → L'[i]? = some l) :
    ∀ (xs : List FV) (vs : List Value), VRelL w I L xs vs → VRelL w' I' L' xs vs
  | [], vs, h => by simpa [VRelL] using h
  | c :: cs, vs, h => by
    simp only [VRelL] at h ⊢
    obtain ⟨v, r, hv, h1, h2⟩ := h
    exact ⟨v, r, hv, VRel.mono hw hI hL c v h1, VRelL.mono hw hI hL cs r h2⟩
end

theorem ORel.mono (hw : ∀ b, I b → w'.heap[b]? = w.heap[b]?) (hI : ∀ b, I b → I' b) (hL : ∀ (i : Nat) (l : Lay), L[i]? = some l → L'[i]? = some l)
    {o : Ob} {l : Lay} (ho : ∀ b ∈ own o l, w'.heap[b]? = w.heap[b]?) (h : ORel w I L o l) : ORel w' I' L' o l := by
  cases o with
  | cells t cs =>
    obtain ⟨b, vs, rfl, hb, h1, h2⟩ := h
    exact ⟨b, vs, rfl, (ho b (by simp [own])).trans hb, h1, VRelL.mono hw hI hL cs vs h2⟩
  | arr e k xs =>
    rcases h with ⟨base, cap, vs, rfl, hr, h2⟩ | ⟨hd, rfl, h2⟩
    rotate_left
    · exact .inr ⟨hd, rfl, h2⟩
    refine .inl ⟨base, cap, vs, rfl, ⟨hr.1, ?_⟩, DRelR.mono hw hI k xs vs h2⟩
    rcases hr.2 with hn | ⟨g, cp, cur, he, hb, hg, rest⟩
    · exact .inl hn
    · refine .inr ⟨g, cp, cur, he, hb, ?_, rest⟩
      cases base with
      | none => simp [Lay.head] at he
      | some b =>
        simp [Lay.head] at he
        obtain ⟨rfl, rfl⟩ := he
        exact (ho b (by simp [own])).trans hg
  | frz k xs =>
    obtain ⟨base, cap, hl, hr⟩ := h
    exact ⟨base, cap, hl, DRel.mono hw hI _ _ hr⟩
  | map ks es =>
    obtain ⟨r, ents, clock, rfl, hb, hk, h1, h2⟩ := h
    exact ⟨r, ents, clock, rfl, (ho r (by simp [own])).trans hb, hk, DRelL.mono hw hI _ _ h1, DRelL.mono hw hI _ _ h2⟩
  | fmap ks es =>
    obtain ⟨r, rfl, hr⟩ := h
    exact ⟨r, rfl, DRel.mono hw hI _ _ hr⟩
  | iter ks es seen =>
    obtain ⟨b, r, ents, rfl, hb, hi, hr, hk, hs, h1, h2⟩ := h
    exact ⟨b, r, ents, rfl, (ho b (by simp [own])).trans hb, hI r hi, (hw r hi).trans hr, hk, hs, DRelL.mono hw hI _ _ h1, DRelL.mono hw hI _ _ h2⟩
  | gone => trivial
end

/-! ### Shapes -/

theorem DRel.ones {w : World} {I : Nat → Prop} {x : D} {v : Value} (h : DRel w I x v) : Ones v.cells.toList := by
  cases x <;> simp only [DRel] at h
  case agg => obtain ⟨vs, rfl, ho, _⟩ := h; simpa [Value.cells] using ho
  case list => obtain ⟨b, c, rfl, _⟩ := h; simp [Value.cells, Ones, Value.oneCell']
  case any => obtain ⟨t, u, rfl⟩ := h; simp [Value.cells, Ones, Value.oneCell']
  case map => obtain ⟨r, e, c, rfl, _⟩ := h; simp [Value.cells, Ones, Value.oneCell']
  all_goals (subst h; simp [Value.cells, Ones, Value.oneCell'])

theorem DRel.cells {w : World} {I : Nat → Prop} {x : D} {v : Value} (h : DRel w I x v) : DRelL w I x.cs v.cells.toList := by
  cases x with
  | agg cs =>
    simp only [DRel] at h
    obtain ⟨vs, rfl, _, hr⟩ := h
    simpa [D.cs, Value.cells] using hr
  | _ =>
    have hv : v.cells.toList = [v] := by
      simp only [DRel] at h
      first
        | (subst h; rfl)
        | (obtain ⟨_, _, rfl, _⟩ := h; rfl)
        | (obtain ⟨_, _, rfl⟩ := h; rfl)
        | (obtain ⟨_, _, _, rfl, _⟩ := h; rfl)
    simp only [D.cs, DRelL]
    exact ⟨v, [], hv, h, rfl⟩

theorem DRelL.length {w : World} {I : Nat → Prop} : ∀ {cs : List D} {vs : List Value}, DRelL w I cs vs → vs.length = cs.length
  | [], vs, h => by simp only [DRelL] at h; subst h; rfl
  | c :: cs, vs, h => by
    simp only [DRelL] at h
    obtain ⟨v, r, rfl, _, h2⟩ := h
    simp [DRelL.length h2]

theorem DRelL.get {w : World} {I : Nat → Prop} : ∀ {cs : List D} {vs : List Value}, DRelL w I cs vs → ∀ (i : Nat) (c : D), cs[i]? = some c → ∃ v, vs[i]? = some v ∧ DRel w I c v
  | [], vs, h, i, c, hc => by simp at hc
  | c :: cs, vs, h, i, x, hx => by
    simp only [DRelL] at h
    obtain ⟨v, r, rfl, h1, h2⟩ := h
    cases i with
    | zero => simp at hx; subst hx; exact ⟨v, rfl, h1⟩
    | succ i => simpa using h2.get i x (by simpa using hx)

theorem DRelL.drop {w : World} {I : Nat → Prop} : ∀ {cs : List D} {vs : List Value} (n : Nat), DRelL w I cs vs → DRelL w I (cs.drop n) (vs.drop n)
  | _, _, 0, h => by simpa using h
  | [], vs, n + 1, h => by simp only [DRelL] at h; subst h; simp [DRelL]
  | c :: cs, vs, n + 1, h => by
    simp only [DRelL] at h
    obtain ⟨v, r, rfl, _, h2⟩ := h
    simpa using h2.drop n

theorem DRelL.take {w : World} {I : Nat → Prop} : ∀ {cs : List D} {vs : List Value} (n : Nat), DRelL w I cs vs → DRelL w I (cs.take n) (vs.take n)
  | _, _, 0, _ => by simp [DRelL]
  | [], vs, n + 1, h => by simp only [DRelL] at h; subst h; simp [DRelL]
  | c :: cs, vs, n + 1, h => by
    simp only [DRelL] at h
    obtain ⟨v, r, rfl, h1, h2⟩ := h
    simp only [List.take_succ_cons, DRelL]
    exact ⟨v, r.take n, rfl, h1, h2.take n⟩

theorem VRelL.length {w : World} {I : Nat → Prop} {L : List Lay} : ∀ {cs : List FV} {vs : List Value}, VRelL w I L cs vs → vs.length = cs.length
  | [], vs, h => by simp only [VRelL] at h; subst h; rfl
  | c :: cs, vs, h => by
    simp only [VRelL] at h
    obtain ⟨v, r, rfl, _, h2⟩ := h
    simp [VRelL.length h2]

theorem VRelL.get {w : World} {I : Nat → Prop} {L : List Lay} : ∀ {cs : List FV} {vs : List Value}, VRelL w I L cs vs → ∀ (i : Nat) (c : FV), cs[i]? = some c → ∃ v, vs[i]? = some v ∧ VRel w I L c v
  | [], vs, h, i, c, hc => by simp at hc
  | c :: cs, vs, h, i, x, hx => by
    simp only [VRelL] at h
    obtain ⟨v, r, rfl, h1, h2⟩ := h
    cases i with
    | zero => simp at hx; subst hx; exact ⟨v, rfl, h1⟩
    | succ i => simpa using h2.get i x (by simpa using hx)

theorem VRelL.drop {w : World} {I : Nat → Prop} {L : List Lay} : ∀ {cs : List FV} {vs : List Value} (n : Nat), VRelL w I L cs vs → VRelL w I L (cs.drop n) (vs.drop n)
  | _, _, 0, h => by simpa using h
  | [], vs, n + 1, h => by simp only [VRelL] at h; subst h; simp [VRelL]
  | c :: cs, vs, n + 1, h => by
    simp only [VRelL] at h
    obtain ⟨v, r, rfl, _, h2⟩ := h
    simpa using h2.drop n

theorem VRelL.take {w : World} {I : Nat → Prop} {L : List Lay} : ∀ {cs : List FV} {vs : List Value} (n : Nat), VRelL w I L cs vs → VRelL w I L (cs.take n) (vs.take n)
  | _, _, 0, _ => by simp [VRelL]
  | [], vs, n + 1, h => by simp only [VRelL] at h; subst h; simp [VRelL]
  | c :: cs, vs, n + 1, h => by
    simp only [VRelL] at h
    obtain ⟨v, r, rfl, h1, h2⟩ := h
    simp only [List.take_succ_cons, VRelL]
    exact ⟨v, r.take n, rfl, h1, h2.take n⟩

theorem VRelL.set {w : World} {I : Nat → Prop} {L : List Lay} : ∀ {cs : List FV} {vs : List Value} (n : Nat) {x : FV} {v : Value}, VRelL w I L cs vs → VRel w I L x v → VRelL w I L (cs.set n x) (vs.set n v)
  | [], vs, n, _, _, h, _ => by simp only [VRelL] at h; subst h; simp [VRelL]
  | c :: cs, vs, n, x, v, h, hx => by
    simp only [VRelL] at h
    obtain ⟨u, r, rfl, h1, h2⟩ := h
    cases n with
    | zero => simp only [List.set_cons_zero, VRelL]; exact ⟨v, r, rfl, hx, h2⟩
    | succ n => simp only [List.set_cons_succ, VRelL]; exact ⟨u, r.set n v, rfl, h1, h2.set n hx⟩

theorem VRelL.append {w : World} {I : Nat → Prop} {L : List Lay} : ∀ {cs ds : List FV} {vs us : List Value}, VRelL w I L cs vs → VRelL w I L ds us → VRelL w I L (cs ++ ds) (vs ++ us)
  | [], ds, vs, us, h, h' => by simp only [VRelL] at h; subst h; simpa using h'
  | c :: cs, ds, vs, us, h, h' => by
    simp only [VRelL] at h
    obtain ⟨v, r, rfl, h1, h2⟩ := h
    simp only [List.cons_append, VRelL]
    exact ⟨v, r ++ us, rfl, h1, h2.append h'⟩

/-- All of them data. -/
def allD : List FV → Option (List D)
  | [] => some []
  | .d x :: r => (allD r).map (x :: ·)
  | _ :: _ => none

theorem VRelL.allD {w : World} {I : Nat → Prop} {L : List Lay} : ∀ {cs : List FV} {vs : List Value} {ds : List D}, VRelL w I L cs vs → allD cs = some ds → DRelL w I ds vs
  | [], vs, ds, h, hd => by simp only [VRelL] at h; subst h; simp [Pay.allD] at hd; subst hd; simp [DRelL]
  | c :: cs, vs, ds, h, hd => by
    simp only [VRelL] at h
    obtain ⟨v, r, rfl, h1, h2⟩ := h
    cases c <;> simp [Pay.allD] at hd
    obtain ⟨ds', hd', rfl⟩ := hd
    simp only [VRel] at h1
    simp only [DRelL]
    exact ⟨v, r, rfl, h1, h2.allD hd'⟩

theorem DRelL.toV {w : World} {I : Nat → Prop} {L : List Lay} : ∀ {cs : List D} {vs : List Value}, DRelL w I cs vs → VRelL w I L (cs.map .d) vs
  | [], vs, h => by simp only [DRelL] at h; subst h; simp [VRelL]
  | c :: cs, vs, h => by
    simp only [DRelL] at h
    obtain ⟨v, r, rfl, h1, h2⟩ := h
    simp only [List.map_cons, VRelL]
    exact ⟨v, r, rfl, by simpa only [VRel] using h1, h2.toV⟩

/-! ### Rows of elements -/

theorem DRelR.length {w : World} {I : Nat → Prop} {k : Nat} : ∀ {xs : List D} {vs : List Value}, DRelR w I k xs vs → vs.length = xs.length * k
  | [], vs, h => by simp only [DRelR] at h; subst h; simp
  | x :: xs, vs, h => by
    simp only [DRelR] at h
    obtain ⟨v, r, rfl, hk, _, h2⟩ := h
    simp [hk, h2.length, Nat.succ_mul, Nat.add_comm]

theorem DRelR.get {w : World} {I : Nat → Prop} {k : Nat} : ∀ {xs : List D} {vs : List Value}, DRelR w I k xs vs → ∀ (i : Nat) (x : D), xs[i]? = some x →
    ∃ v, DRel w I x v ∧ v.cells.size = k ∧ (vs.drop (i * k)).take k = v.cells.toList
  | [], vs, h, i, c, hc => by simp at hc
  | y :: xs, vs, h, i, x, hx => by
    simp only [DRelR] at h
    obtain ⟨v, r, rfl, hk, h1, h2⟩ := h
    cases i with
    | zero =>
      simp at hx; subst hx
      exact ⟨v, h1, hk, by simp [← hk]⟩
    | succ i =>
      obtain ⟨u, hu, hku, hd⟩ := h2.get i x (by simpa using hx)
      refine ⟨u, hu, hku, ?_⟩
      rw [← hd, Nat.succ_mul, Nat.add_comm, ← List.drop_drop]
      congr 2
      rw [← hk, ← Array.length_toList, List.drop_left]

theorem DRelR.append {w : World} {I : Nat → Prop} {k : Nat} : ∀ {xs ys : List D} {vs us : List Value}, DRelR w I k xs vs → DRelR w I k ys us → DRelR w I k (xs ++ ys) (vs ++ us)
  | [], ys, vs, us, h, h' => by simp only [DRelR] at h; subst h; simpa using h'
  | x :: xs, ys, vs, us, h, h' => by
    simp only [DRelR] at h
    obtain ⟨v, r, rfl, hk, h1, h2⟩ := h
    simp only [List.cons_append, DRelR]
    exact ⟨v, r ++ us, by simp, hk, h1, h2.append h'⟩

theorem DRelR.take {w : World} {I : Nat → Prop} {k : Nat} : ∀ {xs : List D} {vs : List Value} (n : Nat), DRelR w I k xs vs → DRelR w I k (xs.take n) (vs.take (n * k))
  | _, _, 0, _ => by simp [DRelR]
  | [], vs, n + 1, h => by simp only [DRelR] at h; subst h; simp [DRelR]
  | x :: xs, vs, n + 1, h => by
    simp only [DRelR] at h
    obtain ⟨v, r, rfl, hk, h1, h2⟩ := h
    simp only [List.take_succ_cons, DRelR]
    refine ⟨v, r.take (n * k), ?_, hk, h1, h2.take n⟩
    rw [List.take_append, Array.length_toList, hk, Nat.succ_mul, Nat.add_sub_cancel, List.take_of_length_le (by simp [hk])]

theorem DRelR.drop {w : World} {I : Nat → Prop} {k : Nat} : ∀ {xs : List D} {vs : List Value} (n : Nat), DRelR w I k xs vs → DRelR w I k (xs.drop n) (vs.drop (n * k))
  | _, _, 0, h => by simpa using h
  | [], vs, n + 1, h => by simp only [DRelR] at h; subst h; simp [DRelR]
  | x :: xs, vs, n + 1, h => by
    simp only [DRelR] at h
    obtain ⟨v, r, rfl, hk, h1, h2⟩ := h
    have := h2.drop n
    rw [List.drop_succ_cons, Nat.succ_mul, Nat.add_comm (n * k) k, ← List.drop_drop]
    have e : (v.cells.toList ++ r).drop k = r := by rw [← hk, ← Array.length_toList, List.drop_left]
    rw [e]; exact this

/-- An element is exchanged. -/
theorem DRelR.set {w : World} {I : Nat → Prop} {k : Nat} : ∀ {xs : List D} {vs : List Value} (i : Nat) {x : D} {v : Value}, DRelR w I k xs vs → i < xs.length → DRel w I x v → v.cells.size = k →
    DRelR w I k (xs.set i x) (vs.take (i * k) ++ v.cells.toList ++ vs.drop (i * k + k))
  | [], vs, i, x, v, h, hi, _, _ => by simp at hi
  | y :: xs, vs, i, x, v, h, hi, hx, hk => by
    simp only [DRelR] at h
    obtain ⟨u, r, rfl, hku, h1, h2⟩ := h
    cases i with
    | zero =>
      simp only [List.set_cons_zero, DRelR]
      refine ⟨v, r, ?_, hk, hx, h2⟩
      simp only [Nat.zero_mul, List.take_zero, List.nil_append, Nat.zero_add]
      congr 1
      rw [← hku, ← Array.length_toList, List.drop_left]
    | succ i =>
      have := h2.set i (by simpa using hi) hx hk
      simp only [List.set_cons_succ, DRelR]
      refine ⟨u, _, ?_, hku, h1, this⟩
      have e1 : (i + 1) * k = u.cells.toList.length + i * k := by rw [Array.length_toList, hku, Nat.succ_mul, Nat.add_comm]
      rw [e1, List.take_length_add_append, Nat.add_assoc, List.drop_length_add_append]
      simp [List.append_assoc]

/-! ### Package-level variables that are read: this seat's list -/
inductive GV where
  | tab (k : IntKind) (zs : List Int)
  | iface
  | int
/-- What such a variable's block holds. -/
def GV.on : GV → Option Obj → Prop
  | .tab k zs, o => ∃ t fr, o = some (.cells (zs.map fun z => Value.int k z).toArray t fr)
  | .iface, o => ∃ tp p t fr, o = some (.cells #[.iface tp p] t fr)
  | .int, o => ∃ m t fr, o = some (.cells #[.int .i64 m] t fr)
def gT : List (Nat × GV) := [(0, .int), (1, .iface), (2, .iface), (3, .tab .u64 [1, 10, 100, 1000, 10000, 100000, 1000000, 10000000, 100000000, 1000000000, 10000000000, 100000000000, 1000000000000, 10000000000000, 100000000000000, 1000000000000000, 10000000000000000, 100000000000000000, 1000000000000000000, 10000000000000000000])]
def GOk (w : World) (I : Nat → Prop) : Prop := ∀ p ∈ gT, I p.1 ∧ p.2.on w.heap[p.1]?
/-- What is immutable lies in the heap; the variables that are read are among it. -/
structure Imm (w : World) (I : Nat → Prop) : Prop where
  lt : ∀ b, I b → b < w.heap.size
  gl : GOk w I
instance {w : World} {I : Nat → Prop} : CoeFun (Imm w I) fun _ => ∀ b, I b → b < w.heap.size := ⟨Imm.lt⟩
theorem Imm.mono {w w' : World} {I : Nat → Prop} (h : Imm w I) (hw : ∀ b, I b → w'.heap[b]? = w.heap[b]?) (hsz : w.heap.size ≤ w'.heap.size) : Imm w' I :=
  ⟨fun b hb => Nat.lt_of_lt_of_le (h.lt b hb) hsz, fun p hp => ⟨(h.gl p hp).1, by rw [hw _ (h.gl p hp).1]; exact (h.gl p hp).2⟩⟩
theorem Imm.more {w : World} {I I' : Nat → Prop} (h : Imm w I) (hI : ∀ b, I b → I' b) (hlt : ∀ b, I' b → b < w.heap.size) : Imm w I' :=
  ⟨hlt, fun p hp => ⟨hI _ (h.gl p hp).1, (h.gl p hp).2⟩⟩

end Go.Proofs.YtjlamhilnkadcaaGreatDoor.Pay
