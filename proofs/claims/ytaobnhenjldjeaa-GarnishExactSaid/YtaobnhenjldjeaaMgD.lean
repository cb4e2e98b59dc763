/- The texts PayR, PayQ, PayU, PayV, PayW, one behind the other. No statement of the seed is proved here. -/
import Derived.ChangeSlices
import Derived.ChangeMaps5
import Derived.WideShapes
import Derived.ProofKit
import Derived.OpenShut
import Derived.ChangeOld
import Derived.OrdersHeld
import Derived.Test.YtaobnhenjldjeaaMgC
/- What a law is handed, as data: each parameter's cells, by its type. No statement of the seed is proved here. -/
namespace Go.Proofs.Ytaobnhenjldjeaa.Pay
open Go Go.RowKit
set_option linter.unusedVariables false
set_option linter.unusedSimpArgs false

def Fs (H : Nat → List D → Prop) : List (Nat × Nat) → List D → Prop
  | [], cs => cs = []
  | p :: r, cs => ∃ a b, cs = a ++ b ∧ H p.2 a ∧ Fs H r b

def elemD (i : TI) (ys : List D) : D := if i.ag = true then .agg ys else ys.headD .nil

/-- Data of a type. -/
def HasT (T : Nat → Option TI) : Nat → Nat → List D → Prop
  | 0, _, _ => False
  | f + 1, t, cs => match T t with
    | none => False
    | some i => match i.kind with
      | .bool => ∃ b, cs = [.bool b]
      | .int k => ∃ n, cs = [.int k n] ∧ k.min ≤ n ∧ n ≤ k.max
      | .str => ∃ s, cs = [.str s] ∧ s.length ≤ maxLen
      | .slice e => match T e with
        | none => False
        | some ei => ∃ xs, cs = [.list ei.size xs] ∧ xs.length ≤ maxLen ∧ ∀ x ∈ xs, ∃ ys, HasT T f e ys ∧ x = elemD ei ys
      | .struct fs => Fs (HasT T f) fs cs
      | _ => False

/-- The fields stand one behind the other. -/
def tileB (T : Nat → Option TI) : List (Nat × Nat) → Nat → Option Nat
  | [], o => some o
  | p :: r, o => if p.1 = o then (T p.2).bind fun i => tileB T r (o + i.size) else none

def goodB (T : Nat → Option TI) : Nat → Nat → Bool
  | 0, _ => false
  | f + 1, t => match T t with
    | none => false
    | some i => match i.kind with
      | .bool => i.size == 1
      | .int _ => i.size == 1
      | .str => i.size == 1
      | .slice e => i.size == 1 && goodB T f e && ((T e).map fun ei => (ei.ag || ei.size == 1) && ei.size != 0).getD false
      | .struct fs => tileB T fs 0 == some i.size && fs.all fun p => goodB T f p.2
      | _ => false

section
variable {P : Program} {T : Nat → Option TI} {H : Type} {enc : TypeId × Value → H} {w : World}

theorem cellsOf_eq (hT : TabOk P T) {t : Nat} {i : TI} (h : T t = some i) : P.cellsOf t = i.size := by
  obtain ⟨j, z, hj, h1, _⟩ := (hT _ _ h).info
  simp [Program.cellsOf, hj, h1]

theorem mapM_get {α β : Type} {f : α → Option β} : ∀ {l : List α} {r : List β}, l.mapM f = some r → r.length = l.length ∧ ∀ (i : Nat) (x : α), l[i]? = some x → ∃ y, f x = some y ∧ r[i]? = some y
  | [], r, h => by simp at h; subst h; simp
  | a :: l, r, h => by
    rw [List.mapM_cons] at h
    simp only [Option.bind_eq_bind, Option.bind_eq_some_iff, Option.pure_def, Option.some.injEq] at h
    obtain ⟨b, hb, rs, hr, rfl⟩ := h
    obtain ⟨h1, h2⟩ := mapM_get hr
    refine ⟨by simp [h1], fun i x hx => ?_⟩
    cases i with
    | zero => simp at hx; subst hx; exact ⟨b, hb, rfl⟩
    | succ i => simpa using h2 i x (by simpa using hx)

theorem cells_at {base : Nat} {a : Addr} {n : Nat} {cs : List Value} (h : w.cells? base a n = some cs) : cs.length = n ∧ ∀ i, i < n → ∃ v, w.cell? (a.add i) = some v ∧ cs[i]? = some v := by
  unfold World.cells? at h
  split at h
  · obtain ⟨h1, h2⟩ := mapM_get h
    refine ⟨by simpa using h1, fun i hi => ?_⟩
    exact h2 i i (List.getElem?_range hi)
  · cases h

def lt (w : World) (b : Nat) : Prop := b < w.heap.size

theorem cell_spot {a : Addr} {v : Value} (h : w.cell? a = some v) : a.spot = none ∧ a.block < w.heap.size := by
  unfold World.cell? at h
  split at h
  · rename_i c t fr hb
    split at h
    · cases h
    · rename_i hs
      refine ⟨by simpa using hs, ?_⟩
      exact (Array.getElem?_eq_some_iff.1 hb).1
  · cases h

theorem one_val {x : D} {v : Value} {I : Nat → Prop} (h : DRel w I x v) (h1 : v.oneCell' = true) : v.cells = #[v] := by
  cases v <;> simp_all [Value.oneCell', Value.cells]

/-- Elements, one behind the other. -/
theorem row_ok {I : Nat → Prop} {ei : TI} {b o : Nat} {Hd : List D → Prop} (hsz : ei.ag = true ∨ ei.size = 1) : ∀ (n : Nat), (∀ i, i < n → ∃ cs ds, cs.length = ei.size ∧ CellsAt w b (o + i * ei.size) cs ∧ DRelL w I ds cs ∧ Ones cs ∧ Hd ds) →
    ∃ xs vs, xs.length = n ∧ DRelR w I ei.size xs vs ∧ CellsAt w b o vs ∧ ∀ x ∈ xs, ∃ ys, Hd ys ∧ x = elemD ei ys
  | 0, _ => ⟨[], [], rfl, by simp [DRelR], fun j v hv => by simp at hv, by simp⟩
  | n + 1, h => by
    obtain ⟨xs, vs, h1, h2, h3, h4⟩ := row_ok hsz n fun i hi => h i (by omega)
    obtain ⟨cs, ds, k1, k2, k3, k4, k5⟩ := h n (by omega)
    have hv : ∃ v, v.cells.toList = cs ∧ DRel w I (elemD ei ds) v := by
      unfold elemD
      by_cases hag : ei.ag = true
      · rw [if_pos hag]
        exact ⟨.agg cs.toArray, by simp [Value.cells], by simp only [DRel]; exact ⟨cs, rfl, k4, k3⟩⟩
      · rw [if_neg hag]
        have h1' : ei.size = 1 := by rcases hsz with h | h; exact absurd h hag; exact h
        rw [h1'] at k1
        obtain ⟨v, rfl⟩ := List.length_eq_one_iff.1 k1
        have hl := k3.length
        simp at hl
        obtain ⟨d, rfl⟩ := List.length_eq_one_iff.1 hl.symm
        simp only [DRelL] at k3
        obtain ⟨v', r, he, hd, _⟩ := k3
        cases he
        exact ⟨v, by rw [one_val hd (k4 v (by simp))], by simpa using hd⟩
    obtain ⟨v, hvc, hvd⟩ := hv
    have hlen := h2.length
    rw [h1] at hlen
    refine ⟨xs ++ [elemD ei ds], vs ++ cs, by simp [h1], h2.append (by simp only [DRelR]; exact ⟨v, [], by rw [hvc]; simp, by rw [← Array.length_toList, hvc, k1], hvd, rfl⟩), fun j u hu => ?_, fun x hx => ?_⟩
    · by_cases hj : j < vs.length
      · rw [List.getElem?_append_left hj] at hu; exact h3 j u hu
      · rw [List.getElem?_append_right (by omega)] at hu
        have := k2 _ u hu
        rwa [hlen, show o + n * ei.size + (j - n * ei.size) = o + j by omega] at this
    · rw [List.mem_append] at hx
      rcases hx with hx | hx
      · exact h4 x hx
      · simp at hx; exact ⟨ds, k5, hx⟩

theorem wf_int {k : IntKind} {n : Int} (h : (Lit.int k n).wf = true) : k.min ≤ n ∧ n ≤ k.max := by
  simpa [Lit.wf] using h

/-- Cells of a type are data of it. -/
theorem open_cells (hT : TabOk P T) : ∀ (g fuel t : Nat) (cs : List Value) (x : DataW H × List MemPlace), goodB T g t = true → DataW.trod enc P w 0 (fun _ => true) true fuel t cs = some x →
    ∃ ds i, T t = some i ∧ cs.length = i.size ∧ DRelL w (lt w) ds cs ∧ Ones cs ∧ HasT T g t ds
  | 0, _, _, _, _, hg, _ => by simp [goodB] at hg
  | g + 1, fuel, t, cs, x, hg, h => by
    unfold goodB at hg
    cases hti : T t with
    | none => rw [hti] at hg; simp at hg
    | some i =>
      rw [hti] at hg
      have hk := (hT _ _ hti).kind
      have hcz := cellsOf_eq hT hti
      simp only at hg
      unfold HasT
      simp only [hti]
      cases hkd : i.kind <;> rw [hkd] at hk hg <;> simp only [TKOk] at hk <;> simp only at hg
      case bool =>
        obtain ⟨b, rfl, _⟩ := DataW.trod_bool hk h
        exact ⟨[.bool b], i, rfl, by simpa using (beq_iff_eq.1 hg).symm, by simp [DRelL, DRel], by simp [Ones, Value.oneCell'], b, rfl⟩
      case int k =>
        obtain ⟨n, rfl, _, hw⟩ := DataW.trod_int hk h
        exact ⟨[.int k n], i, rfl, by simpa using (beq_iff_eq.1 hg).symm, by simp [DRelL, DRel], by simp [Ones, Value.oneCell'], n, rfl, wf_int hw⟩
      case str =>
        obtain ⟨s, rfl, _, hw⟩ := DataW.trod_string hk h
        refine ⟨[.str s.data.toList], i, rfl, by simpa using (beq_iff_eq.1 hg).symm, by simp [DRelL, DRel], by simp [Ones, Value.oneCell'], _, rfl, ?_⟩
        simpa using hw
      case slice e =>
        simp only [Bool.and_eq_true] at hg
        obtain ⟨⟨hg1, hg2⟩, hg3⟩ := hg
        cases hei : T e with
        | none => rw [hei] at hg3; simp at hg3
        | some ei =>
          rw [hei] at hg3
          simp at hg3
          obtain ⟨hg3, hg4⟩ := hg3
          have hce := cellsOf_eq hT hei
          simp only
          rcases DataW.trod_slice hk h with ⟨rfl, _⟩ | ⟨a, len, cap, elems, rest, n, _, rfl, _, hb, hl, hm, hlen, hel, _⟩
          · exact ⟨[.list ei.size []], i, rfl, by simpa using (beq_iff_eq.1 hg1).symm, by simp only [DRelL, DRel]; exact ⟨_, [], rfl, ⟨none, 0, by simp, by simp, .inl trivial⟩, rfl⟩, by simp [Ones, Value.oneCell'], by simp only [hei]; exact ⟨[], rfl, by simp, by simp⟩⟩
          · have hget : ∀ j, j < len → ∃ cj y, w.cells? 0 (a.add (j * ei.size)) ei.size = some cj ∧ DataW.trod enc P w 0 (fun _ => true) true n e cj = some y := by
              intro j hj
              have h1 := hel j hj
              rw [List.getElem?_eq_getElem (by omega), Option.bind_eq_some_iff] at h1
              obtain ⟨cj, hcj, htj⟩ := h1
              rw [hce] at hcj
              exact ⟨cj, _, hcj, htj⟩
            by_cases h0 : len = 0
            · subst h0
              exact ⟨[.list ei.size []], i, rfl, by simpa using (beq_iff_eq.1 hg1).symm, by simp only [DRelL, DRel]; exact ⟨_, [], rfl, ⟨some a, cap, by simp, by simp, .inl trivial⟩, rfl⟩, by simp [Ones, Value.oneCell'], by simp only [hei]; exact ⟨[], rfl, by simp, by simp⟩⟩
            obtain ⟨c0, _, hc0, _⟩ := hget 0 (by omega)
            obtain ⟨_, q2⟩ := cells_at hc0
            obtain ⟨u, hu, _⟩ := q2 0 (by omega)
            have hu' : w.cell? a = some u := by simpa [Addr.add] using hu
            obtain ⟨hsp, hlt⟩ := cell_spot hu'
            obtain ⟨ab, ao, asp⟩ := a
            simp only at hsp hlt
            subst hsp
            have hrow : ∀ j, j < len → ∃ cs ds, cs.length = ei.size ∧ CellsAt w ab (ao + j * ei.size) cs ∧ DRelL w (lt w) ds cs ∧ Ones cs ∧ HasT T g e ds := by
              intro j hj
              obtain ⟨cj, y, hcj, htj⟩ := hget j hj
              obtain ⟨q1, q2⟩ := cells_at hcj
              obtain ⟨dj, i', hi', r1, r2, r3, r4⟩ := open_cells hT g _ e cj _ hg2 htj
              refine ⟨cj, dj, q1, fun m v hv => ?_, r2, r3, r4⟩
              have hm' : m < ei.size := by rw [← q1]; exact (List.getElem?_eq_some_iff.1 hv).1
              obtain ⟨u, hu, hcu⟩ := q2 m hm'
              rw [hv] at hcu
              cases hcu
              rw [Addr.add_lit, Addr.add_lit] at hu
              exact hu
            obtain ⟨xs, vs, e1, e2, e3, e4⟩ := row_ok hg3 len hrow
            refine ⟨[.list ei.size xs], i, rfl, by simpa using (beq_iff_eq.1 hg1).symm, ?_, by simp [Ones, Value.oneCell'], by simp only [hei]; exact ⟨xs, rfl, by omega, e4⟩⟩
            simp only [DRelL, DRel]
            exact ⟨_, [], rfl, ⟨some ⟨ab, ao, none⟩, cap, by rw [e1], by omega, .inr ⟨ab, ao, vs, rfl, hlt, e3, e2⟩⟩, rfl⟩
      case struct fs =>
        simp only [Bool.and_eq_true, beq_iff_eq, List.all_eq_true] at hg
        obtain ⟨hg1, hg2⟩ := hg
        obtain ⟨d, hd, he⟩ := hk
        obtain ⟨xs, n, _, _, hlen, hxl, hall⟩ := DataW.trod_struct hd h
        rw [hcz] at hlen
        have key : ∀ (l : List Field) (o : Nat), (∀ f ∈ l, ∃ y, DataW.trod enc P w 0 (fun _ => true) true n f.type ((cs.drop f.offset).take (P.cellsOf f.type)) = some y) → (∀ f ∈ l, goodB T g f.type = true) →
            tileB T (l.map fun f => (f.offset, f.type)) o = some i.size → ∃ ds, DRelL w (lt w) ds (cs.drop o) ∧ Ones (cs.drop o) ∧ Fs (HasT T g) (l.map fun f => (f.offset, f.type)) ds := by
          intro l
          induction l with
          | nil =>
            intro o _ _ ht
            simp [tileB] at ht
            subst ht
            rw [List.drop_eq_nil_of_le (by omega)]
            exact ⟨[], by simp [DRelL], by simp [Ones], by simp [Fs]⟩
          | cons f r ihl =>
            intro o hy hgd ht
            simp only [List.map_cons, tileB] at ht
            split at ht
            · rename_i hfo
              simp only [Option.bind_eq_some_iff] at ht
              obtain ⟨fi, hfi, ht⟩ := ht
              obtain ⟨y, hy0⟩ := hy f (by simp)
              obtain ⟨d1, fi', k1, k2, k3, k4, k5⟩ := open_cells hT g _ f.type _ _ (hgd f (by simp)) hy0
              rw [hfi] at k1
              cases k1
              obtain ⟨d2, m1, m2, m3⟩ := ihl (o + fi.size) (fun f' hf' => hy f' (by simp [hf'])) (fun f' hf' => hgd f' (by simp [hf'])) ht
              rw [hfo, cellsOf_eq hT hfi] at k2 k3 k4
              have hsplit : cs.drop o = (cs.drop o).take fi.size ++ cs.drop (o + fi.size) := by
                rw [← List.drop_drop, List.take_append_drop]
              refine ⟨d1 ++ d2, ?_, ?_, ?_⟩
              · rw [hsplit]; exact DRelL.append k3 m1
              · rw [hsplit]
                intro v hv
                rw [List.mem_append] at hv
                rcases hv with hv | hv
                · exact k4 v hv
                · exact m2 v hv
              · simp only [List.map_cons, Fs]
                exact ⟨d1, d2, rfl, k5, m3⟩
            · cases ht
        obtain ⟨ds, m1, m2, m3⟩ := key d.toList 0 (fun f hf => by
            obtain ⟨j, hj⟩ := List.getElem?_of_mem hf
            have hj' : d[j]? = some f := by simpa using hj
            have hjx : j < xs.length := by rw [hxl]; exact (Array.getElem?_eq_some_iff.1 hj').1
            exact ⟨xs[j], by rw [hall j f hj', List.getElem?_eq_getElem hjx]⟩)
          (fun f hf => hg2 (f.offset, f.type) (by rw [← he]; exact List.mem_map.2 ⟨f, hf, rfl⟩)) (by rw [he]; exact hg1)
        rw [he] at m3
        exact ⟨ds, i, rfl, hlen, by simpa using m1, by simpa using m2, m3⟩
      all_goals cases hg

/-! ### A law's arguments and its end -/

theorem arg_ok (hT : TabOk P T) {g t : Nat} {v : Value} {d : DataW H} {ps : List MemPlace} {r : Reach} {b0 : Nat} (hg : goodB T g t = true) (hval : Value.okWide P w r b0 t v) (h : DataW.Trod enc P w 0 (fun _ => true) true t v d ps) :
    ∃ ds i, T t = some i ∧ HasT T g t ds ∧ DRel w (lt w) (elemD i ds) v := by
  obtain ⟨fuel, hf⟩ := h
  obtain ⟨ds, i, hti, hlen, hr, ho, hh⟩ := open_cells hT g fuel t _ _ hg hf
  refine ⟨ds, i, hti, hh, ?_⟩
  have hk := (hT _ _ hti).kind
  have one : v.cells = #[v] → i.ag = false → DRel w (lt w) (elemD i ds) v := fun hc hag => by
    rw [hc] at hr
    have hl := hr.length
    simp at hl
    obtain ⟨x, rfl⟩ := List.length_eq_one_iff.1 hl.symm
    simp only [DRelL] at hr
    obtain ⟨v', q, he, hd, _⟩ := hr
    cases he
    simpa [elemD, hag] using hd
  have hgd := hg
  cases g with
  | zero => simp [goodB] at hg
  | succ g =>
    unfold goodB at hg
    rw [hti] at hg
    simp only at hg
    cases hkd : i.kind <;> rw [hkd] at hk hg <;> simp only [TKOk] at hk <;> simp only at hg
    case bool => obtain ⟨b, rfl⟩ := WideShapes.okWide_bool hk hval; exact one (by simp [Value.cells]) (by simp [TI.ag, hkd])
    case int k => obtain ⟨b, rfl⟩ := WideShapes.okWide_int hk hval; exact one (by simp [Value.cells]) (by simp [TI.ag, hkd])
    case str => obtain ⟨b, rfl⟩ := WideShapes.okWide_string hk hval; exact one (by simp [Value.cells]) (by simp [TI.ag, hkd])
    case slice e => obtain ⟨a, l, c, rfl⟩ := WideShapes.okWide_slice hk hval; exact one (by simp [Value.cells]) (by simp [TI.ag, hkd])
    case struct fs =>
      obtain ⟨d, hd, _⟩ := hk
      obtain ⟨cs, rfl, _⟩ := WideShapes.okWide_struct hd hval
      have hag : i.ag = true := by simp [TI.ag, hkd]
      simp only [elemD, hag, if_true, DRel]
      exact ⟨cs.toList, by simp, by simpa [Value.cells] using ho, by simpa [Value.cells] using hr⟩
    all_goals cases hg

/-- A walk, as a row wants it. -/
theorem WpF.law {f : FuncId} {args : List FV} {vs : List Value} {R : FV → List Ob → Prop} (h : WpF P f args [] R) (hR : ∀ r S, R r S → r = .d (.bool true)) (ha : VRelL w (lt w) [] args vs) :
    Calls P f vs.toArray w fun e w' => e = .returned (.bool true) ∧ Below w.heap.size w w' := by
  refine (h w (lt w) [] vs ha ⟨rfl, fun i o l h => by simp at h, by simp [owns], fun b hb => by simp [owns] at hb, fun b hb => hb⟩).mono fun e w' ⟨r, v, S', I', L', he, hq, hv, _, evo, _, _⟩ => ?_
  have := hR _ _ hq
  subst this
  simp only [VRel, DRel] at hv
  subst hv
  exact ⟨he, evo.os, evo.tape, evo.output, evo.size, fun b hb => evo.keep b hb (by simp [owns])⟩
end
end Go.Proofs.Ytaobnhenjldjeaa.Pay
/- Regions that draw their order, over abstract data: one walk in text order serves every order, if a test on what the operations touch holds. No statement of the seed is proved here. -/
namespace Go.Proofs.Ytaobnhenjldjeaa.Pay
open Go Go.RowKit
set_option linter.unusedSimpArgs false
set_option linter.unusedVariables false

/-! ### What an operation looks at -/
/-- A slot is set. -/
def putE (d : Option Nat) (v : FV) (env : List (Nat × FV)) : List (Nat × FV) := match d with
  | none => env
  | some d => (d, v) :: env
def gotE (d : Option Nat) (env : List (Nat × FV)) : FV := match d with
  | none => .tup []
  | some d => (get env d).getD (.tup [])
mutual
def fids : FV → List Nat
  | .ref id _ => [id]
  | .sl id _ => [id]
  | .er id _ _ _ => [id]
  | .mp id => [id]
  | .so id _ _ _ => [id]
  | .sc id _ _ => [id]
  | .agg cs => fidss cs
  | .fn _ cs => fidss cs
  | .tup cs => fidss cs
  | _ => []
def fidss : List FV → List Nat
  | [] => []
  | x :: r => fids x ++ fidss r
end
def oids : Ob → List Nat
  | .cells _ cs => fidss cs
  | _ => []

def tmpsOf : List Operand → List Nat
  | [] => []
  | .tmp t :: r => t :: tmpsOf r
  | _ :: r => tmpsOf r
def looks (all : Array Oper) (o : Oper) : List Nat := tmpsOf o.op.operands.toList ++ (match o.guard with | none => [] | some (j, _) => ((all[j]?).bind (·.dst)).toList)

def mskE (env : List (Nat × FV)) : List Nat → List (Nat × FV)
  | [] => []
  | t :: r => match get env t with
    | some x => (t, x) :: mskE env r
    | none => mskE env r
def mskS (rd : List Nat) : Nat → List Ob → List Ob
  | _, [] => []
  | i, o :: r => (if i ∈ rd then o else .gone) :: mskS rd (i + 1) r

theorem mskE_get {env : List (Nat × FV)} : ∀ {ts : List Nat} {t : Nat} {x : FV}, get (mskE env ts) t = some x → get env t = some x
  | [], t, x, h => by simp [mskE, get] at h
  | k :: r, t, x, h => by
    unfold mskE at h
    split at h
    · rename_i y hy
      simp only [get] at h
      by_cases hk : k = t
      · rw [if_pos hk] at h; cases h; subst hk; exact hy
      · rw [if_neg hk] at h; exact mskE_get h
    · exact mskE_get h
theorem mskE_congr {e1 e2 : List (Nat × FV)} : ∀ {ts : List Nat}, (∀ t ∈ ts, get e1 t = get e2 t) → mskE e1 ts = mskE e2 ts
  | [], _ => rfl
  | k :: r, h => by
    unfold mskE
    rw [h k (by simp), mskE_congr (ts := r) fun t ht => h t (by simp [ht])]
theorem mskS_len {rd : List Nat} : ∀ {i : Nat} {S : List Ob}, (mskS rd i S).length = S.length
  | _, [] => rfl
  | i, o :: r => by simp [mskS, mskS_len]
theorem mskS_get {rd : List Nat} : ∀ {i j : Nat} {S : List Ob}, (mskS rd i S)[j]? = (S[j]?).map fun o => if i + j ∈ rd then o else .gone
  | i, j, [] => by simp [mskS]
  | _, 0, o :: r => by simp [mskS]
  | i, j + 1, o :: r => by simp only [mskS, List.getElem?_cons_succ]; rw [mskS_get, Nat.add_assoc, Nat.add_comm 1 j]
theorem mskS_congr {rd : List Nat} {S S' : List Ob} (hl : S.length = S'.length) (h : ∀ j ∈ rd, S[j]? = S'[j]?) : mskS rd 0 S = mskS rd 0 S' := by
  apply List.ext_getElem?
  intro j
  rw [mskS_get, mskS_get, Nat.zero_add]
  by_cases hj : j ∈ rd
  · rw [h j hj]
  · simp only [if_neg hj]
    by_cases hlt : j < S.length
    · rw [List.getElem?_eq_getElem hlt, List.getElem?_eq_getElem (hl ▸ hlt)]; rfl
    · rw [List.getElem?_eq_none (by omega), List.getElem?_eq_none (by omega)]

/-- What an operation sees. -/
def msk (s : St) (ts rd : List Nat) : St := ⟨mskE s.env ts, mskS rd 0 s.S, s.nt, s.S.length⟩

def ownsOf (S : List Ob) (L : List Lay) : List Nat := owns S L

section
variable {P : Program} {T : Nat → Option TI} {w w' : World} {I I' : Nat → Prop} {L L' : List Lay} {s s' s1 s2 : St} {a : Act} {all ops : Array Oper} {o : Oper} {rest : List Oper} {Q : Exit → St → Prop} {c : Code} {md : Region.Mode}

theorem owns_msk {rd : List Nat} : ∀ {i : Nat} {S : List Ob} {L : List Lay}, (owns (mskS rd i S) L).Sublist (owns S L)
  | _, [], L => by simp [mskS, owns]
  | i, o :: r, [] => by simp [mskS, owns]
  | i, o :: r, l :: L => by
    simp only [mskS, owns]
    split
    · exact (List.Sublist.refl _).append owns_msk
    · exact (List.nil_sublist _).append owns_msk

theorem SR.msk (hs : SR w I L s a) (ts rd : List Nat) : SR w I L (Pay.msk s ts rd) a := by
  have hsub := owns_msk (rd := rd) (i := 0) (S := s.S) (L := L)
  refine ⟨fun t x hx => hs.env t x (mskE_get hx), hs.nt, by simp [Pay.msk, mskS_len, hs.len], fun i o l h1 h2 => ?_, hsub.nodup hs.nodup, fun b hb => hs.sep b (hsub.subset hb), hs.imm, hs.defers⟩
  simp only [Pay.msk, mskS_get, Option.map_eq_some_iff, Nat.zero_add] at h1
  obtain ⟨o', ho', h1⟩ := h1
  split at h1
  · subst h1; exact hs.obs i _ l ho' h2
  · subst h1; trivial

/-- What is put back: the objects that the operation did not see. -/
def bakS (wr : List Nat) : Nat → List Ob → List Ob → List Ob
  | _, [], S1 => S1
  | i, o :: r, [] => o :: r
  | i, o :: r, o1 :: S1 => (if i ∈ wr then o1 else o) :: bakS wr (i + 1) r S1

theorem bakS_get {wr : List Nat} : ∀ {i j : Nat} {S S1 : List Ob}, S.length ≤ S1.length → (bakS wr i S S1)[j]? = if j < S.length ∧ ¬ (i + j ∈ wr) then S[j]? else S1[j]?
  | i, j, [], S1, _ => by simp [bakS]
  | i, j, o :: r, [], h => by simp at h
  | i, 0, o :: r, o1 :: S1, h => by
    simp only [bakS]
    by_cases hi : i ∈ wr <;> simp [hi]
  | i, j + 1, o :: r, o1 :: S1, h => by
    simp only [bakS, List.getElem?_cons_succ, List.length_cons]
    rw [bakS_get (by simpa using h), Nat.add_assoc, Nat.add_comm 1 j]
    simp
theorem bakS_len {wr : List Nat} : ∀ {i : Nat} {S S1 : List Ob}, S.length ≤ S1.length → (bakS wr i S S1).length = S1.length
  | _, [], S1, _ => rfl
  | i, o :: r, [], h => by simp at h
  | i, o :: r, o1 :: S1, h => by simp only [bakS, List.length_cons]; rw [bakS_len (by simpa using h)]

/-- The frame: an operation that sees a part of the state leaves the rest as it is. -/
theorem OpOk.frame {ts rd wr : List Nat} (h : OpOk P o (Pay.msk s ts rd) s1) (hp : s.pin ≤ s.S.length) (hlen : s.S.length ≤ s1.S.length) (hnt : s1.nt = s.nt)
    (hkeep : ∀ i, i < s.S.length → i ∉ wr → s1.S[i]? = (mskS rd 0 s.S)[i]?) {v : FV} (hdst : ∀ d, o.dst = some d → get s1.env d = some v ∧ d < s.nt) :
    OpOk P o s ⟨putE o.dst v s.env, bakS wr 0 s.S s1.S, s.nt, s.pin⟩ := fun w I L a hs => by
  obtain ⟨r, w', I', L', u, hr, hv, h1, h2⟩ := h w I L a (hs.msk ts rd)
  have hsub1 := owns_msk (rd := rd) (i := 0) (S := s.S) (L := L)
  have hI : ∀ b, I b → w'.heap[b]? = w.heap[b]? := fun b hb => h2.evo.keep b (hs.imm b hb) fun h' => (hs.sep b (hsub1.subset h')).1 hb
  have hLe : ∀ i : Nat, i < s.S.length → L'[i]? = L[i]? := h2.lay
  have hL : ∀ (i : Nat) (l : Lay), L[i]? = some l → L'[i]? = some l := fun i l hl => (hLe i (by rw [← hs.len]; exact (List.getElem?_eq_some_iff.1 hl).1)).trans hl
  -- blocks of what was not seen
  have hfar : ∀ (i : Nat) (ob : Ob) (l : Lay), s.S[i]? = some ob → L[i]? = some l → i ∉ rd → ∀ b ∈ own ob l, b ∉ owns (mskS rd 0 s.S) L := by
    intro i ob l e1 e2 hi b hb hb'
    obtain ⟨j, o', l', q1, q2, q3⟩ := owns_of_mem hb'
    rw [mskS_get, Option.map_eq_some_iff, Nat.zero_add] at q1
    obtain ⟨o'', q4, q5⟩ := q1
    split at q5
    · rename_i hj
      subst q5
      exact owns_apart hs.nodup e1 e2 q4 q2 (fun e => hi (e ▸ hj)) b hb q3
    · subst q5; simp [own] at q3
  have hback : ∀ (i : Nat) (ob : Ob), (bakS wr 0 s.S s1.S)[i]? = some ob → (i ∉ rd ∧ s.S[i]? = some ob) ∨ s1.S[i]? = some ob := by
    intro i ob hi
    rw [bakS_get hlen, Nat.zero_add] at hi
    split at hi
    · rename_i hc
      by_cases hrd : i ∈ rd
      · right
        rw [hkeep i hc.1 hc.2, mskS_get, Nat.zero_add, hi]
        simp [hrd]
      · exact .inl ⟨hrd, hi⟩
    · exact .inr hi
  have hnew : ∀ b ∈ owns s1.S L', b ∈ owns (mskS rd 0 s.S) L ∨ w.heap.size ≤ b := h2.evo.own
  have hlenL : L'.length = s1.S.length := h1.len
  have hcase : ∀ (i : Nat) (ob : Ob) (l : Lay), (bakS wr 0 s.S s1.S)[i]? = some ob → L'[i]? = some l → (i ∉ rd ∧ s.S[i]? = some ob ∧ L[i]? = some l) ∨ s1.S[i]? = some ob := by
    intro i ob l e1 e2
    rcases hback i ob e1 with ⟨q1, q2⟩ | q
    · exact .inl ⟨q1, q2, by rw [← hLe i (List.getElem?_eq_some_iff.1 q2).1]; exact e2⟩
    · exact .inr q
  have hfar2 : ∀ (i : Nat) (ob : Ob) (l : Lay), i ∉ rd → s.S[i]? = some ob → L[i]? = some l → ∀ b ∈ own ob l, b < w.heap.size ∧ b ∉ owns s1.S L' := by
    intro i ob l q1 q2 q3 b hb
    have hlt := (hs.sep b (owns_mem q2 q3 b hb)).2
    refine ⟨hlt, fun h' => ?_⟩
    rcases hnew b h' with h' | h'
    · exact hfar i ob l q2 q3 q1 b hb h'
    · omega
  refine ⟨r, w', I', L', u, hr, hv, ⟨fun t x hx => ?_, ?_, ?_, fun i ob l e1 e2 => ?_, ?_, fun b hb => ?_, h1.imm, h1.defers⟩, ⟨⟨h2.evo.os, h2.evo.tape, h2.evo.output, h2.evo.size, fun b hb hA => ?_, h2.evo.imm, fun b hb => ?_, fun b hb => ?_⟩, rfl, fun i hi => hLe i (Nat.lt_of_lt_of_le hi hp)⟩⟩
  · cases hd : o.dst with
    | none =>
      simp only [Act.put]
      simp only [hd, putE] at hx
      exact VRel.mono hI h2.evo.imm hL _ _ (hs.env t x hx)
    | some d =>
      simp only [hd, putE, get] at hx
      by_cases hdt : d = t
      · rw [if_pos hdt] at hx
        cases hx; subst hdt
        have := h1.env d v (hdst d hd).1
        rwa [hd] at this
      · rw [if_neg hdt] at hx
        have h0 := VRel.mono hI h2.evo.imm hL _ _ (hs.env t x hx)
        simp only [Act.put, Array.getD_eq_getD_getElem?, Array.getElem?_setIfInBounds, if_neg hdt]
        simpa only [Array.getD_eq_getD_getElem?] using h0
  · exact h1.nt.trans hnt
  · show L'.length = (bakS wr 0 s.S s1.S).length
    rw [bakS_len hlen]; exact hlenL
  · rcases hcase i ob l e1 e2 with ⟨q1, q2, q3⟩ | q
    · refine ORel.mono hI h2.evo.imm hL (fun b hb => ?_) (hs.obs i ob l q2 q3)
      exact h2.evo.keep b (hfar2 i ob l q1 q2 q3 b hb).1 (hfar i ob l q2 q3 q1 b hb)
    · exact h1.obs i ob l q e2
  · refine owns_nodup fun i j o1 o2 l1 l2 hij e1 e2 e3 e4 b hb hb' => ?_
    rcases hcase i o1 l1 e1 e2 with ⟨q1, q2, q3⟩ | q <;> rcases hcase j o2 l2 e3 e4 with ⟨r1, r2, r3⟩ | r'
    · exact owns_apart hs.nodup q2 q3 r2 r3 hij b hb hb'
    · exact (hfar2 i o1 l1 q1 q2 q3 b hb).2 (owns_mem r' e4 b hb')
    · exact (hfar2 j o2 l2 r1 r2 r3 b hb').2 (owns_mem q e2 b hb)
    · exact owns_apart h1.nodup q e2 r' e4 hij b hb hb'
  · obtain ⟨i, ob, l, e1, e2, e3⟩ := owns_of_mem hb
    rcases hcase i ob l e1 e2 with ⟨q1, q2, q3⟩ | q
    · obtain ⟨g1, g2⟩ := hs.sep b (owns_mem q2 q3 b e3)
      refine ⟨fun hb' => ?_, Nat.lt_of_lt_of_le g2 h2.evo.size⟩
      rcases h2.evo.immNew b hb' with h' | h' | h'
      · exact g1 h'
      · exact hfar i ob l q2 q3 q1 b e3 h'
      · omega
    · exact h1.sep b (owns_mem q e2 b e3)
  · exact h2.evo.keep b hb fun h' => hA (hsub1.subset h')
  · rcases h2.evo.immNew b hb with h' | h' | h'
    · exact .inl h'
    · exact .inr (.inl (hsub1.subset h'))
    · exact .inr (.inr h')
  · obtain ⟨i, ob, l, e1, e2, e3⟩ := owns_of_mem hb
    rcases hcase i ob l e1 e2 with ⟨q1, q2, q3⟩ | q
    · exact .inl (owns_mem q2 q3 b e3)
    · rcases hnew b (owns_mem q e2 b e3) with h' | h'
      · exact .inl (hsub1.subset h')
      · exact .inr h'

/-! ### What an operation leaves -/
def ptrIds : Option FV → List Nat
  | some (.ref id _) => [id]
  | some (.er id _ _ _) => [id]
  | some (.sl id _) => [id]
  | some (.so id _ _ _) => [id]
  | some (.sc id _ _) => [id]
  | _ => []
/-- The objects that an operation writes. -/
def wrIds (s : St) : Op → List Nat
  | .store _ p _ => ptrIds (evX s p)
  | .call { callee := .builtin .append, args, .. } => (match args.toList with | x :: _ => ptrIds (evX s x) | [] => [])
  | .call { callee := .builtin .copy, args, .. } => (match args.toList with | x :: _ => ptrIds (evX s x) | [] => [])
  | _ => []

theorem setS_out {s0 : St} {dst : Option Nat} {x : FV} (h : setS s0 dst x = some s1) : s1.S = s0.S ∧ s1.nt = s0.nt ∧ s1.pin = s0.pin ∧ (∀ d, dst = some d → get s1.env d = some x ∧ d < s0.nt) := by
  unfold setS at h
  cases dst with
  | none => cases h; exact ⟨rfl, rfl, rfl, fun d hd => by cases hd⟩
  | some d =>
    simp only at h
    split at h
    · rename_i hd
      cases h
      exact ⟨rfl, rfl, rfl, fun d' hd' => by cases hd'; exact ⟨by simp [get], hd⟩⟩
    · cases h

structure OpOut (o : Oper) (s s1 : St) : Prop where
  nt : s1.nt = s.nt
  len : s1.S.length = s.S.length ∨ s1.S.length = s.S.length + 1
  keep : ∀ i, i < s.S.length → i ∉ wrIds s o.op → s1.S[i]? = s.S[i]?
  dst : ∀ d, o.dst = some d → (∃ v, get s1.env d = some v) ∧ d < s.nt

theorem OpOut.same {x : FV} (h : setS s o.dst x = some s1) : OpOut o s s1 := by
  obtain ⟨h1, h2, _, h4⟩ := setS_out h
  exact ⟨h2, .inl (by rw [h1]), fun i _ _ => by rw [h1], fun d hd => ⟨⟨x, (h4 d hd).1⟩, (h4 d hd).2⟩⟩
theorem OpOut.more {x : FV} {ob : Ob} (h : setS { s with S := s.S ++ [ob] } o.dst x = some s1) : OpOut o s s1 := by
  obtain ⟨h1, h2, _, h4⟩ := setS_out h
  exact ⟨h2, .inr (by rw [h1]; simp), fun i hi _ => by rw [h1]; exact List.getElem?_append_left hi, fun d hd => ⟨⟨x, (h4 d hd).1⟩, (h4 d hd).2⟩⟩

theorem evStN_out {t : TypeId} {p x : FV} {S' : List Ob} (h : evStN T s t p x = some S') : S'.length = s.S.length ∧ ∀ i, i ∉ ptrIds (some p) → S'[i]? = s.S[i]? := by
  unfold evStN at h
  simp only [Option.bind_eq_some_iff] at h
  obtain ⟨i, _, h⟩ := h
  split at h
  · split at h
    · split at h
      · split at h
        · cases h; exact ⟨by simp, fun j hj => List.getElem?_set_ne (by simp [ptrIds] at hj; omega)⟩
        · cases h
      · cases h
    · split at h
      · split at h
        · simp only [Option.bind_eq_some_iff] at h
          obtain ⟨y, _, ds, _, h⟩ := h
          split at h
          · split at h
            · cases h; exact ⟨by simp, fun j hj => List.getElem?_set_ne (by simp [ptrIds] at hj; omega)⟩
            · cases h
          · split at h
            · split at h
              · split at h
                · cases h
                · cases h; exact ⟨by simp, fun j hj => List.getElem?_set_ne (by simp [ptrIds] at hj; omega)⟩
              · cases h
            · cases h
        · cases h
      · cases h
    · cases h
  · cases h

theorem evAp_out {t u : TypeId} {x y : FV} {p : List Ob × Nat} (h : evAp T s t u x y = some p) : p.1.length = s.S.length + 1 ∧ ∀ i, i < s.S.length → i ∉ ptrIds (some x) → p.1[i]? = s.S[i]? := by
  unfold evAp at h
  simp only [Option.bind_eq_some_iff] at h
  obtain ⟨i, _, j, _, h⟩ := h
  split at h
  · simp only [Option.bind_eq_some_iff] at h
    obtain ⟨ei, _, ys, _, h⟩ := h
    split at h
    · split at h
      · split at h
        · cases h; exact ⟨by simp, fun k hk hn => by rw [List.getElem?_append_left (by simpa using hk)]; exact List.getElem?_set_ne (by simp [ptrIds] at hn; omega)⟩
        · cases h
      · cases h
    · split at h
      · cases h; exact ⟨by simp, fun k hk hn => by rw [List.getElem?_append_left hk]⟩
      · cases h
    · cases h
  · simp only [Option.bind_eq_some_iff] at h
    obtain ⟨ei, _, h⟩ := h
    split at h
    · split at h
      · split at h
        · cases h; exact ⟨by simp, fun k hk hn => by rw [List.getElem?_append_left hk]⟩
        · cases h
      · cases h
    · cases h
  · cases h

theorem evOp_out (h : evOp T o s = some s1) : OpOut o s s1 := by
  unfold evOp at h
  split at h
  · simp only [Option.bind_eq_some_iff] at h
    obtain ⟨i, hi, h⟩ := h
    split at h
    · exact OpOut.more h
    · cases h
  · simp only [Option.bind_eq_some_iff] at h
    obtain ⟨i, hi, h⟩ := h
    split at h
    · exact OpOut.more h
    · cases h
  · rename_i t p x ho
    simp only [Option.bind_eq_some_iff] at h
    obtain ⟨vp, hp, vx, hx, S', hS, h⟩ := h
    obtain ⟨h1, h2, _, h4⟩ := setS_out h
    obtain ⟨q1, q2⟩ := evStN_out hS
    exact ⟨h2, .inl (by rw [h1]; exact q1), fun i hi hn => by rw [h1]; exact q2 i (by simpa [wrIds, ho, hp] using hn), fun d hd => ⟨⟨_, (h4 d hd).1⟩, (h4 d hd).2⟩⟩
  · simp only [Option.bind_eq_some_iff] at h
    obtain ⟨i, hi, h⟩ := h
    split at h
    · simp only [Option.bind_eq_some_iff] at h
      obtain ⟨ei, hei, h⟩ := h
      split at h
      · split at h
        · exact OpOut.more h
        · cases h
      · cases h
    · cases h
  · simp only [Option.bind_eq_some_iff] at h
    obtain ⟨i, hi, h⟩ := h
    split at h
    · simp only [Option.bind_eq_some_iff] at h
      obtain ⟨ei, hei, xs, hxs, h⟩ := h
      split at h
      · exact OpOut.more h
      · cases h
    · cases h
  · simp only [Option.bind_eq_some_iff] at h
    obtain ⟨v, hv, h⟩ := h
    exact OpOut.same h
  · rename_i args ts ho
    split at h
    · rename_i sx yx t u e1 e2
      simp only [Option.bind_eq_some_iff] at h
      obtain ⟨vx, hx, vy, hy, p, hp, h⟩ := h
      split at h
      · obtain ⟨h1, h2, _, h4⟩ := setS_out h
        obtain ⟨q1, q3⟩ := evAp_out hp
        exact ⟨h2, .inr (by rw [h1]; exact q1), fun i hi hn => by rw [h1]; exact q3 i hi (by simpa [wrIds, ho, e1, hx] using hn), fun d hd => ⟨⟨_, (h4 d hd).1⟩, (h4 d hd).2⟩⟩
      · cases h
    · cases h
  · rename_i args ts ho
    split at h
    · rename_i dx yx t u e1 e2
      simp only [Option.bind_eq_some_iff] at h
      obtain ⟨vx, hx, vy, hy, p, hp, h⟩ := h
      obtain ⟨h1, h2, _, h4⟩ := setS_out h
      obtain ⟨q1, q3⟩ := evCo_out hp
      exact ⟨h2, .inl (by rw [h1]; exact q1), fun i hi hn => by rw [h1]; exact q3 i (fun id k off n hid he => by subst hid; subst he; exact hn (by simp [wrIds, ho, e1, hx, ptrIds])), fun d hd => ⟨⟨_, (h4 d hd).1⟩, (h4 d hd).2⟩⟩
    · cases h
  · simp only [Option.bind_eq_some_iff] at h
    obtain ⟨x, hx, h⟩ := h
    exact OpOut.same h
end

/-! ### Events -/
/-- What an operation leaves: a value, objects. -/
structure Ev where
  v : FV
  mods : List (Nat × Ob)

def getO : List (Nat × Ob) → Nat → Option Ob
  | [], _ => none
  | (j, o) :: r, i => if j = i then some o else getO r i
def updS (m : List (Nat × Ob)) : Nat → List Ob → List Ob
  | _, [] => []
  | i, o :: r => (getO m i).getD o :: updS m (i + 1) r
def Ev.app (e : Ev) (d : Option Nat) (s : St) : St := ⟨putE d e.v s.env, updS e.mods 0 s.S, s.nt, s.pin⟩

theorem updS_get {m : List (Nat × Ob)} : ∀ {i j : Nat} {S : List Ob}, (updS m i S)[j]? = (S[j]?).map fun o => (getO m (i + j)).getD o
  | i, j, [] => by simp [updS]
  | _, 0, o :: r => by simp [updS]
  | i, j + 1, o :: r => by simp only [updS, List.getElem?_cons_succ]; rw [updS_get, Nat.add_assoc, Nat.add_comm 1 j]
theorem updS_len {m : List (Nat × Ob)} : ∀ {i : Nat} {S : List Ob}, (updS m i S).length = S.length
  | _, [] => rfl
  | i, o :: r => by simp [updS, updS_len]

/-- Number N stands for number nid. -/
def mvN (N nid j : Nat) : Nat := if j = N then nid else j

def wrEv (s1 : St) : List Nat → List (Nat × Ob)
  | [] => []
  | i :: r => (i, (s1.S[i]?).getD .gone) :: wrEv s1 r
/-- The event of an operation that leads to s1; N: how many objects there were; nid: the number of what is new. -/
def mkEv (d : Option Nat) (N nid : Nat) (wr : List Nat) (s1 : St) : Ev :=
  ⟨ren (mvN N nid) (gotE d s1.env), (match s1.S[N]? with | none => [] | some ob => [(nid, ob)]) ++ wrEv s1 wr⟩

mutual
theorem ren_id {σ : Nat → Nat} : ∀ {x : FV}, (∀ j ∈ fids x, σ j = j) → ren σ x = x
  | .d x, _ => rfl
  | .ref id off, h => by simp [ren, h id (by simp [fids])]
  | .sl id n, h => by simp [ren, h id (by simp [fids])]
  | .er id k i off, h => by simp [ren, h id (by simp [fids])]
  | .dp cs, _ => rfl
  | .agg cs, h => by simp only [ren]; rw [rens_id (xs := cs) fun j hj => h j (by simpa [fids] using hj)]
  | .fn f cs, h => by simp only [ren]; rw [rens_id (xs := cs) fun j hj => h j (by simpa [fids] using hj)]
  | .tup cs, h => by simp only [ren]; rw [rens_id (xs := cs) fun j hj => h j (by simpa [fids] using hj)]
  | .mp id, h => by simp [ren, h id (by simp [fids])]
  | .so id _ _ _, h => by simp [ren, h id (by simp [fids])]
  | .sc id _ _, h => by simp [ren, h id (by simp [fids])]
  | .dead, _ => rfl
theorem rens_id {σ : Nat → Nat} : ∀ {xs : List FV}, (∀ j ∈ fidss xs, σ j = j) → rens σ xs = xs
  | [], _ => rfl
  | x :: r, h => by simp only [rens]; rw [ren_id (x := x) fun j hj => h j (by simp [fidss, hj]), rens_id (xs := r) fun j hj => h j (by simp [fidss, hj])]
end
mutual
theorem ren_ren {σ τ : Nat → Nat} : ∀ {x : FV}, ren σ (ren τ x) = ren (fun j => σ (τ j)) x
  | .d x => rfl
  | .ref id off => rfl
  | .sl id n => rfl
  | .er id k i off => rfl
  | .dp cs => rfl
  | .agg cs => by simp only [ren]; rw [rens_rens]
  | .fn f cs => by simp only [ren]; rw [rens_rens]
  | .tup cs => by simp only [ren]; rw [rens_rens]
  | .mp id => rfl
  | .so _ _ _ _ => rfl
  | .sc _ _ _ => rfl
  | .dead => rfl
theorem rens_rens {σ τ : Nat → Nat} : ∀ {xs : List FV}, rens σ (rens τ xs) = rens (fun j => σ (τ j)) xs
  | [] => rfl
  | x :: r => by simp only [rens]; rw [ren_ren, rens_rens]
end
theorem renO_id {σ : Nat → Nat} {ob : Ob} (h : ∀ j ∈ oids ob, σ j = j) : renO σ ob = ob := by
  cases ob <;> simp only [renO]
  rw [rens_id h]

mutual
/-- What stands in a world names objects that are there. -/
theorem VRel.lt {w : World} {I : Nat → Prop} {L : List Lay} : ∀ {x : FV} {v : Value}, VRel w I L x v → ∀ j ∈ fids x, j < L.length
  | .d x, v, h, j, hj => by simp [fids] at hj
  | .ref id off, v, h, j, hj => by simp only [VRel] at h; obtain ⟨b, h1, _⟩ := h; simp [fids] at hj; subst hj; exact (List.getElem?_eq_some_iff.1 h1).1
  | .sl id n, v, h, j, hj => by simp only [VRel] at h; obtain ⟨l, hd, cap, h1, _⟩ := h; simp [fids] at hj; subst hj; exact (List.getElem?_eq_some_iff.1 h1).1
  | .er id k i off, v, h, j, hj => by simp only [VRel] at h; obtain ⟨b, cap, h1, _⟩ := h; simp [fids] at hj; subst hj; exact (List.getElem?_eq_some_iff.1 h1).1
  | .dp cs, v, h, j, hj => by simp [fids] at hj
  | .agg cs, v, h, j, hj => by simp only [VRel] at h; obtain ⟨vs, _, _, h1⟩ := h; exact VRelL.lt h1 j (by simpa [fids] using hj)
  | .fn f cs, v, h, j, hj => by simp only [VRel] at h; obtain ⟨vs, _, h1⟩ := h; exact VRelL.lt h1 j (by simpa [fids] using hj)
  | .tup cs, v, h, j, hj => by simp only [VRel] at h; obtain ⟨vs, _, h1⟩ := h; exact VRelL.lt h1 j (by simpa [fids] using hj)
  | .mp id, v, h, j, hj => by simp only [VRel] at h; obtain ⟨r, h1, _⟩ := h; simp [fids] at hj; subst hj; exact (List.getElem?_eq_some_iff.1 h1).1
  | .so id k off n, v, h, j, hj => by simp only [VRel] at h; obtain ⟨l, hd, c, h1, _⟩ := h; simp [fids] at hj; subst hj; exact (List.getElem?_eq_some_iff.1 h1).1
  | .sc id n c, v, h, j, hj => by simp only [VRel] at h; obtain ⟨l, hd, h1, _⟩ := h; simp [fids] at hj; subst hj; exact (List.getElem?_eq_some_iff.1 h1).1
  | .dead, v, h, j, hj => by simp [fids] at hj
theorem VRelL.lt {w : World} {I : Nat → Prop} {L : List Lay} : ∀ {xs : List FV} {vs : List Value}, VRelL w I L xs vs → ∀ j ∈ fidss xs, j < L.length
  | [], vs, h, j, hj => by simp [fidss] at hj
  | x :: r, vs, h, j, hj => by
    simp only [VRelL] at h
    obtain ⟨v, u, _, h1, h2⟩ := h
    simp only [fidss, List.mem_append] at hj
    rcases hj with hj | hj
    · exact VRel.lt h1 j hj
    · exact VRelL.lt h2 j hj
end

/-- A number that nothing names. -/
structure Fresh (nid : Nat) (s : St) : Prop where
  gone : s.S[nid]? = some .gone
  pin : s.pin ≤ nid
  env : ∀ t x, get s.env t = some x → nid ∉ fids x
  obs : ∀ (i : Nat) (ob : Ob), s.S[i]? = some ob → nid ∉ oids ob

section
variable {P : Program} {T : Nat → Option TI} {w w' : World} {I I' : Nat → Prop} {L L' : List Lay} {s s' s1 s2 : St} {a : Act} {all ops : Array Oper} {o : Oper} {rest : List Oper} {Q : Exit → St → Prop} {c : Code} {md : Region.Mode}

theorem SR.ids (hs : SR w I L s a) : (∀ t x, get s.env t = some x → ∀ j ∈ fids x, j < s.S.length) ∧ ∀ (i : Nat) (ob : Ob), s.S[i]? = some ob → ∀ j ∈ oids ob, j < s.S.length := by
  refine ⟨fun t x hx j hj => hs.len ▸ (hs.env t x hx).lt j hj, fun i ob hi j hj => ?_⟩
  have hlt := (List.getElem?_eq_some_iff.1 hi).1
  have hl : L[i]? = some (L[i]'(by rw [hs.len]; exact hlt)) := List.getElem?_eq_getElem (by rw [hs.len]; exact hlt)
  have h := hs.obs i ob _ hi hl
  cases ob <;> simp only [oids, List.not_mem_nil] at hj
  obtain ⟨b, vs, _, _, _, h1⟩ := h
  exact hs.len ▸ h1.lt j hj

/-- What is new takes the place that was kept for it. -/
theorem Gh.fill {d : Option Nat} {env : List (Nat × FV)} {S : List Ob} {nt pin nid : Nat} {v : FV} {ob : Ob} (hg : S[nid]? = some .gone) (hp : pin ≤ nid) (he : ∀ t x, get env t = some x → ∀ j ∈ fids x, j < S.length ∧ j ≠ nid)
    (hS : ∀ (i : Nat) (ob : Ob), S[i]? = some ob → ∀ j ∈ oids ob, j < S.length ∧ j ≠ nid) (hv : ∀ j ∈ fids v, j ≤ S.length ∧ j ≠ nid) (ho : ∀ j ∈ oids ob, j < S.length ∧ j ≠ nid) :
    Gh ⟨putE d v env, S ++ [ob], nt, pin⟩ ⟨putE d (ren (mvN S.length nid) v) env, S.set nid ob, nt, pin⟩ := by
  have hlt : nid < S.length := (List.getElem?_eq_some_iff.1 hg).1
  have hσ : ∀ j, j < S.length → j ≠ nid → σ0 (S ++ [ob]).length ((List.range S.length).set nid S.length) j = j := by
    intro j hj hn
    simp [σ0, List.getD, List.getElem?_set_ne (Ne.symm hn), List.getElem?_range hj]
  have hσn : σ0 (S ++ [ob]).length ((List.range S.length).set nid S.length) nid = S.length := by
    simp [σ0, List.getD, List.getElem?_set_self (show nid < (List.range S.length).length by simpa using hlt)]
  refine Gh.renum (s := ⟨_, S ++ [ob], nt, pin⟩) ((List.range S.length).set nid S.length) ?_ ?_ ?_ ⟨by simp, ?_⟩ ?_
  · unfold List.Nodup
    rw [List.pairwise_iff_getElem]
    intro i j hi hj hij
    simp at hi hj
    rw [List.getElem_set, List.getElem_set, List.getElem_range, List.getElem_range]
    split <;> split <;> omega
  · intro i hi
    rcases List.mem_or_eq_of_mem_set hi with h | h
    · simp at h ⊢; omega
    · subst h; simp
  · intro t x hx
    have keep : get env t = some x → get env t = some (ren (σ0 (S ++ [ob]).length ((List.range S.length).set nid S.length)) x) := fun h => by
      rw [ren_id fun j hj => hσ j (he t x h j hj).1 (he t x h j hj).2]; exact h
    cases d with
    | none => exact keep hx
    | some d =>
      simp only [putE, get] at hx ⊢
      by_cases hd : d = t
      · rw [if_pos hd] at hx ⊢
        cases hx
        rw [ren_ren, ren_id fun j hj => ?_]
        obtain ⟨g1, g2⟩ := hv j hj
        unfold mvN
        split
        · rename_i hj'; rw [hσn, hj']
        · exact hσ j (by omega) g2
      · rw [if_neg hd] at hx ⊢; exact keep hx
  · intro j i c hj hc
    by_cases hn : nid = j
    · subst hn
      rw [List.getElem?_set_self (by simpa using hlt)] at hj
      have hc' : (S.set nid ob)[nid]? = some c := hc
      rw [List.getElem?_set_self hlt] at hc'
      cases hj; cases hc'
      rw [renO_id fun k hk => hσ k (ho k hk).1 (ho k hk).2]
      simp
    · have hc' : (S.set nid ob)[j]? = some c := hc
      rw [List.getElem?_set_ne hn] at hj hc'
      have hjl := (List.getElem?_eq_some_iff.1 hc').1
      rw [List.getElem?_range hjl] at hj
      cases hj
      rw [renO_id fun k hk => hσ k (hS j c hc' k hk).1 (hS j c hc' k hk).2]
      show (S ++ [ob])[j]? = some c
      rw [List.getElem?_append_left hjl]; exact hc'
  · intro i hi
    have hi' : i < pin := hi
    rw [List.getElem?_set_ne (by omega), List.getElem?_range (by omega)]
end
end Go.Proofs.Ytaobnhenjldjeaa.Pay
/- Regions that draw their order: events, and that they do not hang on what stands beside. No statement of the seed is proved here. -/
namespace Go.Proofs.Ytaobnhenjldjeaa.Pay
open Go Go.RowKit
set_option linter.unusedSimpArgs false
set_option linter.unusedVariables false

def opTmps (o : Op) : List Nat := tmpsOf o.operands.toList
def ptrsOf (s : St) : List Operand → List Nat
  | [] => []
  | x :: r => ptrIds (evX s x) ++ ptrsOf s r
/-- The objects that an operation reads. -/
def rdIds (s : St) : Op → List Nat
  | .store _ p _ => ptrIds (evX s p)
  | .load _ p => ptrIds (evX s p)
  | .convert _ _ x => ptrIds (evX s x)
  | .call { callee := .builtin _, args, .. } => ptrsOf s args.toList
  | _ => []
/-- The objects of which an operation reads how long they are. -/
def shIds (s : St) : Op → List Nat
  | .indexAddr _ x _ => ptrIds (evX s x)
  | .slice _ x _ _ _ => ptrIds (evX s x)
  | _ => []
mutual
/-- The objects that are read where a value is lent. -/
def vids (S : List Ob) : FV → List Nat
  | .ref id _ => id :: (match S[id]? with | some (.cells _ cs) => fidss cs | _ => [])
  | .sl id _ => [id]
  | .er id _ _ _ => [id]
  | .mp id => [id]
  | .so id _ _ _ => [id]
  | .sc id _ _ => [id]
  | .agg cs => vidss S cs
  | .fn _ cs => vidss S cs
  | .tup cs => vidss S cs
  | _ => []
def vidss (S : List Ob) : List FV → List Nat
  | [] => []
  | x :: r => vids S x ++ vidss S r
end

def isSh : Op → Bool
  | .indexAddr _ _ _ => true
  | .slice _ _ _ _ _ => true
  | _ => false

/-- An object's kind, and how long it is. -/
def shp : Ob → Ob
  | .arr e k xs => .arr e k (List.replicate xs.length .nil)
  | .cells _ _ => .gone
  | o => o

def newOk (N nid : Nat) (d : Option Nat) (wr : List Nat) (s1 : St) : Bool :=
  let v := gotE d s1.env
  match s1.S[N]? with
  | none => (fids v).all fun j => decide (j < N)
  | some ob => (oids ob).all (fun j => decide (j < N ∧ j ≠ nid)) && (fids v).all (fun j => decide (j ≤ N ∧ j ≠ nid)) && wr.all (fun i => decide (i ≠ nid) && (oids ((s1.S[i]?).getD .gone)).all fun j => decide (j < N ∧ j ≠ nid))

def callS (N nid : Nat) (perm : List Nat) (S0 : List Ob) : List (Nat × Ob) :=
  (match S0.drop perm.length with | ob :: _ => [(nid, renO (σ1 N perm) ob)] | [] => []) ++ perm.zip (renOs (σ1 N perm) (S0.take perm.length))
def callOkB (N nid : Nat) (perm : List Nat) (r0 : FV) (S0 : List Ob) : Bool :=
  decide (perm.length ≤ S0.length) && decide (S0.length ≤ perm.length + 1) && perm.all (fun i => decide (i < N ∧ i ≠ nid)) && (fids (ren (σ1 N perm) r0)).all (fun j => decide (j < (if S0.length = perm.length then N else N + 1) ∧ j ≠ nid)) &&
    (renOs (σ1 N perm) S0).all fun ob => (oids ob).all fun j => decide (j < N ∧ j ≠ nid)

/-- What operation o leaves at s: event e; rd: the objects that it reads, sh: of which it reads the length. -/
inductive EvOk (P : Program) (T : Nat → Option TI) (all : Array Oper) (o : Oper) (s : St) (nid : Nat) : Ev → List Nat → List Nat → Prop where
  | skip (h : wantS all s o = some false) (hd : ∀ d, o.dst = some d → d < s.nt) : EvOk P T all o s nid ⟨.tup [], []⟩ [] []
  | op {s1 : St} (h : wantS all s o = some true) (h1 : evOp T o (msk s (opTmps o.op) (rdIds s o.op)) = some s1) (h2 : newOk s.S.length nid o.dst (wrIds s o.op) s1 = true) :
      EvOk P T all o s nid (mkEv o.dst s.S.length nid (wrIds s o.op) s1) (rdIds s o.op) []
  | lit {s1 : St} {et k d : Nat} {xs : List D} (h : wantS all s o = some true) (h1 : evOp T o (msk s (opTmps o.op) []) = some s1) (h0 : wrIds s o.op = []) (h2 : s1.S[s.S.length]? = some (.arr et k xs)) (h3 : o.dst = some d)
      (h4 : get s1.env d = some (.sl s.S.length xs.length)) : EvOk P T all o s nid ⟨.d (.list k xs), []⟩ [] []
  | sh {v : FV} (h : wantS all s o = some true) (h0 : isSh o.op = true) (h1 : evA T s o.op = some v) (hd : ∀ d, o.dst = some d → d < s.nt) : EvOk P T all o s nid ⟨v, []⟩ [] (shIds s o.op)
  | eqs {t ty : TypeId} {x y : Operand} {xs ys : List D} {b neg : Bool} (h : wantS all s o = some true) (ho : o.op = .binOp (eqOp neg) t x y ty) (hx : evX s x = some (.d (.agg xs))) (hy : evX s y = some (.d (.agg ys))) (hE : EqT P t xs ys b)
      (hd : ∀ d, o.dst = some d → d < s.nt) : EvOk P T all o s nid ⟨.d (.bool (b ^^ neg)), []⟩ [] []
  | lend {fx : Operand} {args : Array Operand} {ts : Array TypeId} {g : FuncId} {caps xs cargs : List FV} {v : FV} (h : wantS all s o = some true) (ho : o.op = .call { callee := .value fx, args, argTypes := ts })
      (hf : evX s fx = some (.fn g caps)) (hx : evXs s args.toList = some xs) (hv : viewFs true s.S (xs ++ caps) = some cargs) (hc : Callable P g) (hcall : WpF P g cargs [] fun r _ => r = v) (hfl : flatR v = true)
      (hd : ∀ d, o.dst = some d → d < s.nt) : EvOk P T all o s nid ⟨v, []⟩ (vidss s.S (xs ++ caps)) []
  | call {fx : Operand} {args : Array Operand} {ts : Array TypeId} {g : FuncId} {caps xs cargs : List FV} {cS : List Ob} (perm : List Nat) {r0 : FV} {S0 : List Ob} (h : wantS all s o = some true) (ho : o.op = .call { callee := .value fx, args, argTypes := ts })
      (hf : evX s fx = some (.fn g caps)) (hx : evXs s args.toList = some xs) (hc : Callable P g) (hn : perm.Nodup) (ha : ArgsOk s.S perm (xs ++ caps) cargs) (hpass : PassOk s.S perm cS)
      (hcall : WpF P g cargs cS fun r S1 => r = r0 ∧ S1 = S0) (hb : callOkB s.S.length nid perm r0 S0 = true) (hd : ∀ d, o.dst = some d → d < s.nt) :
      EvOk P T all o s nid ⟨ren (mvN s.S.length nid) (ren (σ1 s.S.length perm) r0), callS s.S.length nid perm S0⟩ (vidss s.S (xs ++ caps) ++ perm) []

section
variable {P : Program} {T : Nat → Option TI} {w w' : World} {I I' : Nat → Prop} {L L' : List Lay} {s s' s1 s2 : St} {a : Act} {all ops : Array Oper} {o : Oper} {rest : List Oper} {Q : Exit → St → Prop} {c : Code} {md : Region.Mode}

theorem mem_tmpsOf : ∀ {xs : List Operand} {t : Nat}, .tmp t ∈ xs → t ∈ tmpsOf xs
  | x :: r, t, h => by
    rcases List.mem_cons.1 h with h | h
    · subst h; simp [tmpsOf]
    · have ih := mem_tmpsOf h
      cases x <;> simp [tmpsOf, ih]

theorem evX_congr {xs : List Operand} (he : ∀ t ∈ tmpsOf xs, get s.env t = get s2.env t) {x : Operand} (hx : x ∈ xs) : evX s x = evX s2 x := by
  cases x with
  | tmp t => exact he t (mem_tmpsOf hx)
  | _ => rfl
theorem evXs_congr {xs : List Operand} (he : ∀ x ∈ xs, evX s x = evX s2 x) : evXs s xs = evXs s2 xs := by
  induction xs with
  | nil => rfl
  | cons x r ih => simp only [evXs]; rw [he x (by simp), ih fun y hy => he y (by simp [hy])]
theorem ptrsOf_congr {xs : List Operand} (he : ∀ x ∈ xs, evX s x = evX s2 x) : ptrsOf s xs = ptrsOf s2 xs := by
  induction xs with
  | nil => rfl
  | cons x r ih => simp only [ptrsOf]; rw [he x (by simp), ih fun y hy => he y (by simp [hy])]

theorem wantS_congr (he : ∀ t ∈ looks all o, get s.env t = get s2.env t) : wantS all s o = wantS all s2 o := by
  unfold wantS
  unfold looks at he
  cases hg : o.guard with
  | none => rfl
  | some p =>
    obtain ⟨j, want⟩ := p
    simp only [hg] at he ⊢
    cases hd : (all[j]?).bind (·.dst) with
    | none => rfl
    | some d => simp only; rw [he d (by simp [hd])]

theorem rdIds_congr (he : ∀ x ∈ o.op.operands.toList, evX s x = evX s2 x) : rdIds s o.op = rdIds s2 o.op := by
  unfold rdIds
  split
  · rename_i h; rw [he _ (by simp [h, Op.operands])]
  · rename_i h; rw [he _ (by simp [h, Op.operands])]
  · rename_i h; rw [he _ (by simp [h, Op.operands])]
  · rename_i h; exact ptrsOf_congr fun x hx => he x (by simp [h, Op.operands, Call.operands]; simpa using hx)
  · rfl
theorem wrIds_congr (he : ∀ x ∈ o.op.operands.toList, evX s x = evX s2 x) : wrIds s o.op = wrIds s2 o.op := by
  unfold wrIds
  split
  · rename_i h; rw [he _ (by simp [h, Op.operands])]
  · rename_i args ts h
    split
    · rename_i x r hx; rw [he x (by simp [h, Op.operands, Call.operands]; rw [← Array.mem_toList_iff, hx]; simp)]
    · rfl
  · rename_i args ts h
    split
    · rename_i x r hx; rw [he x (by simp [h, Op.operands, Call.operands]; rw [← Array.mem_toList_iff, hx]; simp)]
    · rfl
  · rfl

theorem shp_arr {o1 o2 : Option Ob} (h : o1.map shp = o2.map shp) {e k : Nat} {xs : List D} (h1 : o1 = some (.arr e k xs)) : ∃ ys, o2 = some (.arr e k ys) ∧ ys.length = xs.length := by
  subst h1
  cases o2 with
  | none => simp at h
  | some ob =>
    simp only [Option.map_some, Option.some.injEq] at h
    cases ob <;> simp [shp] at h
    obtain ⟨rfl, rfl, h⟩ := h
    exact ⟨_, rfl, h.symm⟩
theorem shp_frz {o1 o2 : Option Ob} (h : o1.map shp = o2.map shp) {k : Nat} {xs : List D} (h1 : o1 = some (.frz k xs)) : o2 = some (.frz k xs) := by
  subst h1
  cases o2 with
  | none => simp at h
  | some ob =>
    simp only [Option.map_some, Option.some.injEq] at h
    cases ob <;> simp [shp] at h
    obtain ⟨rfl, rfl⟩ := h
    rfl

theorem sh_congr {v : FV} (h0 : isSh o.op = true) (he : ∀ x ∈ o.op.operands.toList, evX s x = evX s2 x) (hs : ∀ i ∈ shIds s o.op, (s.S[i]?).map shp = (s2.S[i]?).map shp) (h : evA T s o.op = some v) : evA T s2 o.op = some v := by
  cases ho : o.op <;> rw [ho] at h0 h hs he <;> simp only [isSh, reduceCtorEq] at h0
  case indexAddr t x i =>
    simp only [evA, Option.bind_eq_some_iff] at h ⊢
    obtain ⟨vx, hx, vi, hi, h⟩ := h
    refine ⟨vx, by rw [← he x (by simp [Op.operands])]; exact hx, vi, by rw [← he i (by simp [Op.operands])]; exact hi, ?_⟩
    simp only [shIds, hx] at hs
    unfold evIA at h ⊢
    split at h
    · simp only [Option.bind_eq_some_iff] at h ⊢
      obtain ⟨ti, hti, h⟩ := h
      refine ⟨ti, hti, ?_⟩
      split at h
      · simp only [Option.bind_eq_some_iff] at h ⊢
        obtain ⟨ei, hei, h⟩ := h
        refine ⟨ei, hei, ?_⟩
        split at h
        · rename_i id n
          have hq := hs id (by simp [ptrIds])
          split at h
          · rename_i e k xs hS
            obtain ⟨ys, hy, hl⟩ := shp_arr hq hS
            simp only [hy, hl]; exact h
          · rename_i k xs hS
            simp only [shp_frz hq hS]; exact h
          · cases h
        · exact h
        · rename_i id k' off n
          have hq := hs id (by simp [ptrIds])
          split at h
          · rename_i e k xs hS
            obtain ⟨ys, hy, hl⟩ := shp_arr hq hS
            simp only [hy, hl]; exact h
          · cases h
        · cases h
      · exact h
      · cases h
    · cases h
  case slice t x lo hi mx =>
    cases mx with
    | some m => simp [evA] at h
    | none =>
      simp only [evA, Option.bind_eq_some_iff] at h ⊢
      obtain ⟨vx, hx, l, hl, hh, hhi, h⟩ := h
      refine ⟨vx, by rw [← he x (by simp [Op.operands])]; exact hx, l, ?_, hh, ?_, ?_⟩
      · cases lo with
        | none => exact hl
        | some y => simp only [evOpt] at hl ⊢; rw [← he y (by simp [Op.operands])]; exact hl
      · cases hi with
        | none => exact hhi
        | some y => simp only [evOpt] at hhi ⊢; rw [← he y (by simp [Op.operands])]; exact hhi
      · simp only [shIds, hx] at hs
        unfold evSl at h ⊢
        simp only [Option.bind_eq_some_iff] at h ⊢
        obtain ⟨ti, hti, h⟩ := h
        refine ⟨ti, hti, ?_⟩
        split at h
        · exact h
        · exact h
        · rename_i e id n hk
          have hq := hs id (by simp [ptrIds])
          simp only [Option.bind_eq_some_iff] at h ⊢
          obtain ⟨ei, hei, m, hm, n', hn', h⟩ := h
          refine ⟨ei, hei, m, hm, n', hn', ?_⟩
          split at h
          · rename_i e' k xs hS
            obtain ⟨ys, hy, hl'⟩ := shp_arr hq hS
            simp only [hy, hl']; exact h
          · cases h
        · rename_i e id n c hk
          have hq := hs id (by simp [ptrIds])
          simp only [Option.bind_eq_some_iff] at h ⊢
          obtain ⟨ei, hei, m, hm, n', hn', h⟩ := h
          refine ⟨ei, hei, m, hm, n', hn', ?_⟩
          split at h
          · rename_i e' k xs hS
            obtain ⟨ys, hy, hl'⟩ := shp_arr hq hS
            simp only [hy]; exact h
          · cases h
        · cases h

theorem cellD_congr {S S2 : List Ob} {x : FV} (h : ∀ i ∈ fids x, S[i]? = S2[i]?) : cellD S x = cellD S2 x := by
  cases x <;> simp only [cellD]
  rename_i id n
  rw [h id (by simp [fids])]
theorem cellsD_congr {S S2 : List Ob} : ∀ {xs : List FV}, (∀ i ∈ fidss xs, S[i]? = S2[i]?) → cellsD S xs = cellsD S2 xs
  | [], _ => rfl
  | x :: r, h => by simp only [cellsD]; rw [cellD_congr (x := x) fun i hi => h i (by simp [fidss, hi]), cellsD_congr (xs := r) fun i hi => h i (by simp [fidss, hi])]

mutual
theorem viewF_congr {b : Bool} {S S2 : List Ob} : ∀ {x : FV}, (∀ i ∈ vids S x, S[i]? = S2[i]?) → viewF b S x = viewF b S2 x
  | .d x, _ => rfl
  | .ref id off, h => by
    have h0 := h id (by simp [vids])
    simp only [viewF]
    rw [← h0]
    cases hS : S[id]? with
    | none => rfl
    | some ob =>
      cases ob <;> simp only
      rename_i t cs
      rw [cellsD_congr fun i hi => h i (by simp [vids, hS, hi])]
  | .sl id n, h => by simp only [viewF]; rw [h id (by simp [vids])]
  | .er id k i off, _ => rfl
  | .dp cs, _ => rfl
  | .agg cs, h => by simp only [viewF]; rw [viewFs_congr (xs := cs) fun i hi => h i (by simpa [vids] using hi)]
  | .fn f cs, h => by simp only [viewF]; rw [viewFs_congr (xs := cs) fun i hi => h i (by simpa [vids] using hi)]
  | .tup cs, h => by simp only [viewF]; rw [viewFs_congr (xs := cs) fun i hi => h i (by simpa [vids] using hi)]
  | .mp id, h => by simp only [viewF]; rw [h id (by simp [vids])]
  | .so _ _ _ _, _ => rfl
  | .sc _ _ _, _ => rfl
  | .dead, _ => rfl
theorem viewFs_congr {b : Bool} {S S2 : List Ob} : ∀ {xs : List FV}, (∀ i ∈ vidss S xs, S[i]? = S2[i]?) → viewFs b S xs = viewFs b S2 xs
  | [], _ => rfl
  | x :: r, h => by simp only [viewFs]; rw [viewF_congr (x := x) fun i hi => h i (by simp [vidss, hi]), viewFs_congr (xs := r) fun i hi => h i (by simp [vidss, hi])]
end

mutual
theorem vids_congr {S S2 : List Ob} : ∀ {x : FV}, (∀ i ∈ vids S x, S[i]? = S2[i]?) → vids S x = vids S2 x
  | .d x, _ => rfl
  | .ref id off, h => by simp only [vids]; rw [h id (by simp [vids])]
  | .sl id n, _ => rfl
  | .er id k i off, _ => rfl
  | .dp cs, _ => rfl
  | .agg cs, h => by simp only [vids]; exact vidss_congr (xs := cs) fun i hi => h i (by simpa [vids] using hi)
  | .fn f cs, h => by simp only [vids]; exact vidss_congr (xs := cs) fun i hi => h i (by simpa [vids] using hi)
  | .tup cs, h => by simp only [vids]; exact vidss_congr (xs := cs) fun i hi => h i (by simpa [vids] using hi)
  | .mp id, _ => rfl
  | .so _ _ _ _, _ => rfl
  | .sc _ _ _, _ => rfl
  | .dead, _ => rfl
theorem vidss_congr {S S2 : List Ob} : ∀ {xs : List FV}, (∀ i ∈ vidss S xs, S[i]? = S2[i]?) → vidss S xs = vidss S2 xs
  | [], _ => rfl
  | x :: r, h => by simp only [vidss]; rw [vids_congr (x := x) fun i hi => h i (by simp [vidss, hi]), vidss_congr (xs := r) fun i hi => h i (by simp [vidss, hi])]
end

theorem argsOk_congr {S S2 : List Ob} {perm : List Nat} (hl : S.length = S2.length) : ∀ {xs cs : List FV}, (∀ i ∈ vidss S xs, S[i]? = S2[i]?) → ArgsOk S perm xs cs → ArgsOk S2 perm xs cs
  | [], [], _, h => h
  | [], _ :: _, _, h => h.elim
  | _ :: _, [], _, h => h.elim
  | x :: xs, c :: cs, hi, h => by
    simp only [ArgsOk] at h ⊢
    refine ⟨?_, argsOk_congr hl (fun i h' => hi i (by simp [vidss, h'])) h.2⟩
    rcases h.1 with h1 | h1
    · exact .inl (by rw [← hl]; exact h1)
    · exact .inr (by rw [← viewF_congr fun i h' => hi i (by simp [vidss, h'])]; exact h1)

/-- An event hangs on what the operation looks at. -/
theorem EvOk.congr {nid : Nat} {e : Ev} {rd sh : List Nat} (h : EvOk P T all o s nid e rd sh) (hl : s.S.length = s2.S.length) (hn : s.nt = s2.nt) (he : ∀ t ∈ looks all o, get s.env t = get s2.env t)
    (hr : ∀ i ∈ rd, s.S[i]? = s2.S[i]?) (hsh : ∀ i ∈ sh, (s.S[i]?).map shp = (s2.S[i]?).map shp) : EvOk P T all o s2 nid e rd sh := by
  have hw := wantS_congr he
  have hx : ∀ x ∈ o.op.operands.toList, evX s x = evX s2 x := fun x hx => evX_congr (fun t ht => he t (by unfold looks; exact List.mem_append_left _ ht)) hx
  cases h with
  | skip h hd => exact .skip (hw ▸ h) (hn ▸ hd)
  | @op s1 h h1 h2 =>
    have e1 := rdIds_congr (o := o) hx
    have e2 := wrIds_congr (o := o) hx
    have e3 : msk s (opTmps o.op) (rdIds s o.op) = msk s2 (opTmps o.op) (rdIds s2 o.op) := by
      unfold msk
      rw [mskE_congr (fun t ht => he t (by unfold looks; exact List.mem_append_left _ ht)), mskS_congr hl hr, hn, hl, e1]
    rw [e1, e2, hl]
    refine .op (hw ▸ h) (e3 ▸ h1) ?_
    rw [← hl, ← e2]; exact h2
  | @lit s1 et k d xs h h1 h0 h2 h3 h4 =>
    have e3 : msk s (opTmps o.op) [] = msk s2 (opTmps o.op) [] := by
      unfold msk
      rw [mskE_congr (fun t ht => he t (by unfold looks; exact List.mem_append_left _ ht)), mskS_congr hl (by simp), hn, hl]
    exact .lit (hw ▸ h) (e3 ▸ h1) (by rw [← wrIds_congr hx]; exact h0) (by rw [← hl]; exact h2) h3 (by rw [← hl]; exact h4)
  | sh h h0 h1 hd =>
    have e1 : shIds s o.op = shIds s2 o.op := by
      unfold shIds
      split
      · rename_i ho; rw [hx _ (by simp [ho, Op.operands])]
      · rename_i ho; rw [hx _ (by simp [ho, Op.operands])]
      · rfl
    rw [e1]
    exact .sh (hw ▸ h) h0 (sh_congr h0 hx hsh h1) (hn ▸ hd)
  | eqs h ho h1 h2 hE hd => exact .eqs (hw ▸ h) ho (by rw [← hx _ (by simp [ho, Op.operands])]; exact h1) (by rw [← hx _ (by simp [ho, Op.operands])]; exact h2) hE (hn ▸ hd)
  | @lend fx args ts g caps xs cargs v h ho hf hxs hv hc hcall hfl hd =>
    have hx1 : evX s fx = evX s2 fx := hx fx (by simp [ho, Op.operands, Call.operands])
    have hx2 : evXs s args.toList = evXs s2 args.toList := evXs_congr fun x hx' => hx x (by simp [ho, Op.operands, Call.operands]; exact .inr (by simpa using hx'))
    rw [vidss_congr hr]
    exact .lend (hw ▸ h) ho (hx1 ▸ hf) (hx2 ▸ hxs) (by rw [← viewFs_congr hr]; exact hv) hc hcall hfl (hn ▸ hd)
  | @call fx args ts g caps xs cargs cS perm r0 S0 h ho hf hxs hc hnd ha hpass hcall hb hd =>
    have hx1 : evX s fx = evX s2 fx := hx fx (by simp [ho, Op.operands, Call.operands])
    have hx2 : evXs s args.toList = evXs s2 args.toList := evXs_congr fun x hx' => hx x (by simp [ho, Op.operands, Call.operands]; exact .inr (by simpa using hx'))
    rw [vidss_congr fun i hi => hr i (List.mem_append_left _ hi), hl]
    refine .call perm (hw ▸ h) ho (hx1 ▸ hf) (hx2 ▸ hxs) hc hnd (argsOk_congr hl (fun i hi => hr i (List.mem_append_left _ hi)) ha) ⟨hpass.1, fun j i c hj hc' => ?_⟩ hcall (hl ▸ hb) (hn ▸ hd)
    rw [← hl, ← hr i (List.mem_append_right _ (List.mem_of_getElem? hj))]
    exact hpass.2 j i c hj hc'
end
end Go.Proofs.Ytaobnhenjldjeaa.Pay
/- Regions that draw their order: what an event means. No statement of the seed is proved here. -/
namespace Go.Proofs.Ytaobnhenjldjeaa.Pay
open Go Go.RowKit
set_option linter.unusedSimpArgs false
set_option linter.unusedVariables false

theorem upon_norm {P : Program} {o : Oper} {a : Act} {n n' : Act → World → Prop} {Q Q' : Exit → Act → World → Prop} (hn : ∀ a w, n a w → n' a w) (hp : ∀ c a w, ¬ Q (.panic c) a w) (ho : ¬ LetsOut Q)
    {r : Result Next} (h : o.upon P a n Q r) : o.upon P a n' Q' r := by
  unfold Oper.upon at h ⊢
  split at h
  · exact hn _ _ h
  · exact hn _ _ h
  · exact hn _ _ h
  · exact h.mono fun e w hw => by
      cases e with
      | returned v => exact hn _ _ hw
      | panicked c => exact (hp _ _ _ hw).elim
      | outgrown => exact (ho hw).elim
  · exact h.mono fun v w hw => hn _ _ hw
  · exact (hp _ _ _ h).elim
  · exact h.elim

theorem updS_nil : ∀ {i : Nat} {S : List Ob}, updS [] i S = S
  | _, [] => rfl
  | i, o :: r => by simp [updS, getO, updS_nil]

theorem getO_wrEv {s1 : St} : ∀ {wr : List Nat} {i : Nat}, getO (wrEv s1 wr) i = if i ∈ wr then some ((s1.S[i]?).getD .gone) else none
  | [], i => by simp [wrEv, getO]
  | j :: r, i => by
    simp only [wrEv, getO]
    by_cases h : j = i
    · subst h; simp
    · rw [if_neg h, getO_wrEv]; simp [Ne.symm h]

theorem setS_eq {s : St} {d : Option Nat} {x : FV} (hd : ∀ d', d = some d' → d' < s.nt) : setS s d x = some { s with env := putE d x s.env } := by
  unfold setS
  cases d with
  | none => rfl
  | some d => simp only; rw [if_pos (hd d rfl)]; rfl

section
variable {P : Program} {T : Nat → Option TI} {w w' : World} {I I' : Nat → Prop} {L L' : List Lay} {s s' s1 s2 : St} {a : Act} {all ops : Array Oper} {o : Oper} {rest : List Oper} {Q : Exit → St → Prop} {c : Code} {md : Region.Mode}

/-- What carrying out an operation comes to, whatever follows. -/
def Do1 (P : Program) (all : Array Oper) (o : Oper) (s s' : St) : Prop := ∀ w I L a, SR w I L s a → ∀ (K : Act → World → Prop) (Q : Exit → Act → World → Prop),
  (∀ a' w' I' L', SR w' I' L' s' a' → Step w I L s w' I' L' s' → K a' w') → if Region.wanted o (yielded all a.tmps) = true then o.wp P a w K Q ∨ (o.asks P a w ∧ LetsOut Q) else K (a.put o.dst undef) w

theorem Do1.of_wpo (h : WpO P all [o] s (fun e s1 => e = .normal ∧ s1 = s')) : Do1 P all o s s' := fun w I L a hs K Q hK => by
  have h0 := h w I L a hs
  have hno : ¬ LetsOut (Post w I L s fun e s1 => e = .normal ∧ s1 = s') := fun ⟨_, _, s1, I1, L1, ⟨he, _⟩, _⟩ => by cases he
  have hn : ∀ a' w', wpList P all (Post w I L s fun e s1 => e = .normal ∧ s1 = s') [] a' w' → K a' w' := fun a' w' h' => by
    obtain ⟨s1, I1, L1, ⟨_, rfl⟩, r, t⟩ := h'
    exact hK _ _ _ _ r t
  unfold wpList at h0
  split
  · rename_i hw
    rw [if_pos hw] at h0
    rcases h0 with h0 | ⟨_, h0⟩
    · exact .inl (upon_norm hn (fun c a w ⟨s1, I1, L1, ⟨he, _⟩, _⟩ => by cases he) hno h0)
    · exact absurd h0 hno
  · rename_i hw
    rw [if_neg hw] at h0
    exact hn _ _ h0

theorem Do1.of_op (hw : wantS all s o = some true) (ho : OpOk P o s s') : Do1 P all o s s' := Do1.of_wpo (WpO.step hw ho (WpO.nil ⟨rfl, rfl⟩))
theorem Do1.gh (h : Do1 P all o s s1) (g : Gh s1 s') : Do1 P all o s s' := fun w I L a hs K Q hK => h w I L a hs K Q fun a' w' I' L' h1 h2 => by
  obtain ⟨I2, L2, r, t⟩ := g w' I' L' a' h1
  exact hK a' w' I2 L2 r (h2.trans t)
/-- The state at hand may be looked at first. -/
theorem Do1.of_sr (h : ∀ w I L a, SR w I L s a → Do1 P all o s s') : Do1 P all o s s' := fun w I L a hs => h w I L a hs w I L a hs

theorem updS_set {m : List (Nat × Ob)} {nid : Nat} {ob : Ob} {S : List Ob} (hlt : nid < S.length) : (updS m 0 S).set nid ob = updS ((nid, ob) :: m) 0 S := by
  apply List.ext_getElem?
  intro j
  rw [updS_get, Nat.zero_add]
  by_cases h : nid = j
  · subst h
    rw [List.getElem?_set_self (by rw [updS_len]; exact hlt), List.getElem?_eq_getElem hlt]
    simp [getO]
  · rw [List.getElem?_set_ne h, updS_get, Nat.zero_add]
    simp [getO, h]

theorem bakS_upd {wr : List Nat} {S : List Ob} (hlen : s1.S.length = S.length) : bakS wr 0 S s1.S = updS (wrEv s1 wr) 0 S := by
  apply List.ext_getElem?
  intro j
  rw [bakS_get (by omega), updS_get, Nat.zero_add, getO_wrEv]
  by_cases hj : j < S.length
  · by_cases hw : j ∈ wr
    · rw [if_neg (by simp [hw]), List.getElem?_eq_getElem hj, List.getElem?_eq_getElem (by omega)]
      simp [hw]
    · rw [if_pos ⟨hj, hw⟩]
      simp [hw]
  · rw [if_neg (by simp [hj]), List.getElem?_eq_none (by omega), List.getElem?_eq_none (by omega)]
    rfl
theorem bakS_upd1 {wr : List Nat} {S : List Ob} {ob : Ob} (hlen : s1.S.length = S.length + 1) (hob : s1.S[S.length]? = some ob) : bakS wr 0 S s1.S = updS (wrEv s1 wr) 0 S ++ [ob] := by
  apply List.ext_getElem?
  intro j
  rw [bakS_get (by omega), Nat.zero_add]
  by_cases hj : j < S.length
  · rw [List.getElem?_append_left (by rw [updS_len]; exact hj), updS_get, Nat.zero_add, getO_wrEv]
    by_cases hw : j ∈ wr
    · rw [if_neg (by simp [hw]), List.getElem?_eq_getElem hj, List.getElem?_eq_getElem (by omega)]
      simp [hw]
    · rw [if_pos ⟨hj, hw⟩]
      simp [hw]
  · rw [if_neg (by simp [hj]), List.getElem?_append_right (by rw [updS_len]; omega), updS_len]
    by_cases hj2 : j = S.length
    · subst hj2; simp [hob]
    · rw [List.getElem?_eq_none (by omega), List.getElem?_eq_none (by simp; omega)]

theorem zip_get {σ : Nat → Nat} : ∀ {perm : List Nat} {S1 : List Ob} {i : Nat}, perm.length = S1.length → perm.Nodup → getO (perm.zip (renOs σ S1)) i = if h : i ∈ perm then (S1[perm.idxOf i]?).map (renO σ) else none
  | [], _, i, _, _ => by simp [getO]
  | j :: p, [], i, h, _ => by simp at h
  | j :: p, ob :: r, i, h, hn => by
    simp only [renOs, List.zip_cons_cons, getO]
    by_cases hj : j = i
    · subst hj; simp
    · have hn' := (List.nodup_cons.1 hn).2
      rw [if_neg hj, zip_get (by simpa using h) hn']
      by_cases hm : i ∈ p
      · rw [dif_pos hm, dif_pos (by simp [hm]), show (j :: p).idxOf i = p.idxOf i + 1 from by simp [List.idxOf_cons, cond_eq_ite, hj]]; simp
      · rw [dif_neg hm, dif_neg (by simp [hm, Ne.symm hj])]

theorem setAll_upd {perm : List Nat} {S1 : List Ob} {σ : Nat → Nat} {S : List Ob} (hl : perm.length = S1.length) (hn : perm.Nodup) (hlt : ∀ i ∈ perm, i < S.length) : setAll S perm (renOs σ S1) = updS (perm.zip (renOs σ S1)) 0 S := by
  apply List.ext_getElem?
  intro j
  rw [updS_get, Nat.zero_add, zip_get hl hn]
  by_cases hj : j ∈ perm
  · have h1 := List.idxOf_lt_length_of_mem hj
    rw [dif_pos hj]
    have h2 : perm[perm.idxOf j]? = some j := by rw [List.getElem?_eq_getElem h1, List.getElem_idxOf]
    rw [setAll_at perm S (renOs σ S1) (perm.idxOf j) j (renO σ (S1[perm.idxOf j]'(hl ▸ h1))) hn h2 (by rw [renOs_get, List.getElem?_eq_getElem (hl ▸ h1)]; rfl) (hlt j hj)]
    rw [List.getElem?_eq_getElem (hlt j hj), List.getElem?_eq_getElem (hl ▸ h1)]
    rfl
  · rw [dif_neg hj, setAll_other _ _ _ _ hj]
    cases S[j]? <;> rfl

theorem msk_evX {ops : Op} {rd : List Nat} {x : Operand} (hx : x ∈ ops.operands.toList) : evX (msk s (opTmps ops) rd) x = evX s x := by
  cases x with
  | tmp t =>
    simp only [evX, msk]
    have hm : t ∈ opTmps ops := mem_tmpsOf hx
    generalize opTmps ops = ts at hm
    induction ts with
    | nil => simp at hm
    | cons k r ih =>
      unfold mskE
      by_cases hk : k = t
      · subst hk
        cases hg : get s.env k with
        | some y => simp [get]
        | none =>
          simp only
          cases hg2 : get (mskE s.env r) k with
          | none => rfl
          | some y => rw [mskE_get hg2] at hg; cases hg
      · rcases List.mem_cons.1 hm with h' | h'
        · exact absurd h'.symm hk
        · cases hg : get s.env k with
          | some y => simp only [get]; rw [if_neg hk]; exact ih h'
          | none => exact ih h'
  | _ => rfl

/-- A new row that is written no more. -/
theorem Gh.frzNew {d et k pin nt : Nat} {env : List (Nat × FV)} {S : List Ob} {xs : List D} (he : ∀ t x, get env t = some x → ∀ j ∈ fids x, j < S.length) (hS : ∀ (i : Nat) (ob : Ob), S[i]? = some ob → ∀ j ∈ oids ob, j < S.length) (hp : pin ≤ S.length) :
    Gh ⟨(d, .sl S.length xs.length) :: env, S ++ [.arr et k xs], nt, pin⟩ ⟨(d, .d (.list k xs)) :: env, S, nt, pin⟩ := by
  have g1 := Gh.freeze (s := ⟨(d, .sl S.length xs.length) :: env, S ++ [.arr et k xs], nt, pin⟩) (id := S.length) (e := et) (k := k) (xs := xs) (by simp)
  have hset : (S ++ [Ob.arr et k xs]).set S.length (.frz k xs) = S ++ [.frz k xs] := by
    rw [List.set_append_right _ _ (Nat.le_refl _)]; simp
  simp only [hset] at g1
  have g2 := Gh.view (s := ⟨(d, .sl S.length xs.length) :: env, S ++ [.frz k xs], nt, pin⟩) (t := d) (x := .sl S.length xs.length) (y := .d (.list k xs)) (by simp [get]) (by simp [viewF])
  have hσ : ∀ j, j < S.length → σ0 (S ++ [Ob.frz k xs]).length (List.range S.length) j = j := by
    intro j hj
    simp [σ0, List.getD, List.getElem?_range hj]
  have g3 := Gh.renum (s := ⟨(d, .d (.list k xs)) :: (d, .sl S.length xs.length) :: env, S ++ [.frz k xs], nt, pin⟩) (List.range S.length) List.nodup_range (by simp; omega) (env := (d, .d (.list k xs)) :: env) (S := S) (by
    intro t x hx
    simp only [get] at hx ⊢
    by_cases hd : d = t
    · rw [if_pos hd] at hx ⊢; cases hx; rfl
    · rw [if_neg hd] at hx
      rw [if_neg hd, if_neg hd, ren_id fun j hj => hσ j (he t x hx j hj)]; exact hx) ⟨by simp, by
    intro j i c hj hc
    have hjl : j < S.length := by simpa using (List.getElem?_eq_some_iff.1 hj).1
    rw [List.getElem?_range hjl] at hj
    cases hj
    rw [renO_id fun m hm => hσ m (hS j c hc m hm)]
    show (S ++ [Ob.frz k xs])[j]? = some c
    rw [List.getElem?_append_left hjl]; exact hc⟩ (fun i hi => List.getElem?_range (by have : i < pin := hi; omega))
  exact (g1.trans g2).trans g3

/-- An event is what it says. -/
theorem EvOk.do (hT : TabOk P T) {nid : Nat} {e : Ev} {rd sh : List Nat} (h : EvOk P T all o s nid e rd sh) (hp : s.pin ≤ s.S.length) (hf : (getO e.mods nid).isSome = true → Fresh nid s) : Do1 P all o s (e.app o.dst s) := by
  cases h with
  | skip h hd =>
    refine Do1.of_wpo (WpO.skip h (s' := _) (setS_eq hd) (WpO.nil ⟨rfl, ?_⟩))
    simp [Ev.app, updS_nil]
  | @lit s1 et k d xs h h1 h0 h2 h3 h4 =>
    have hout := evOp_out h1
    have hN : (msk s (opTmps o.op) []).S.length = s.S.length := by simp [msk, mskS_len]
    have hwr : wrIds (msk s (opTmps o.op) []) o.op = [] := by rw [wrIds_congr fun x hx => msk_evX hx]; exact h0
    have hlt : s.S.length < s1.S.length := (List.getElem?_eq_some_iff.1 h2).1
    have hfr := OpOk.frame (wr := []) (v := .sl s.S.length xs.length) (evOp_ok hT h1) hp (by omega) hout.nt (fun i hi _ => hout.keep i (by rw [hN]; exact hi) (by rw [hwr]; simp))
      (fun d' hd' => by rw [h3] at hd'; cases hd'; exact ⟨h4, (hout.dst d h3).2⟩)
    have hl : s1.S.length = s.S.length + 1 := by rcases hout.len with h' | h' <;> rw [hN] at h' <;> omega
    rw [bakS_upd1 hl h2, show wrEv s1 [] = [] from rfl, updS_nil] at hfr
    refine Do1.of_sr fun w I L a hs => Do1.gh (Do1.of_op h hfr) ?_
    obtain ⟨ids1, ids2⟩ := hs.ids
    have hg := Gh.frzNew (d := d) (et := et) (k := k) (nt := s.nt) (xs := xs) ids1 ids2 hp
    simp only [Ev.app, h3, putE, updS_nil]
    exact hg
  | sh h h0 h1 hd =>
    refine Do1.of_op h (OpOk.val hT h1 ?_)
    rw [setS_eq hd]; simp [Ev.app, updS_nil]
  | eqs h ho h1 h2 hE hd =>
    refine Do1.of_wpo (WpO.eqS _ h ho h1 h2 hE (setS_eq hd) (WpO.nil ⟨rfl, ?_⟩))
    simp [Ev.app, updS_nil]
  | @lend fx args ts g caps xs cargs v h ho hfx hxs hv hc hcall hfl hd =>
    refine Do1.of_wpo (WpO.callL h ho hfx hxs hv hc hcall fun r S1 hr => ?_)
    subst hr
    exact ⟨hfl, _, setS_eq hd, WpO.nil ⟨rfl, by simp [Ev.app, updS_nil]⟩⟩
  | @op s1 h h1 h2 =>
    have hout := evOp_out h1
    have hN : (msk s (opTmps o.op) (rdIds s o.op)).S.length = s.S.length := by simp [msk, mskS_len]
    have hnt : s1.nt = s.nt := hout.nt
    have hx : ∀ x ∈ o.op.operands.toList, evX (msk s (opTmps o.op) (rdIds s o.op)) x = evX s x := fun x hx => msk_evX hx
    have hwr : wrIds (msk s (opTmps o.op) (rdIds s o.op)) o.op = wrIds s o.op := wrIds_congr hx
    obtain ⟨v, hv⟩ : ∃ v, v = gotE o.dst s1.env := ⟨_, rfl⟩
    have hdst : ∀ d, o.dst = some d → get s1.env d = some v ∧ d < s.nt := fun d hd => by
      obtain ⟨⟨u, hu⟩, hlt⟩ := hout.dst d hd
      refine ⟨?_, hlt⟩
      rw [hv, hd]; simp [gotE, hu]
    have hfr := OpOk.frame (wr := wrIds s o.op) (evOp_ok hT h1) hp (by rcases hout.len with h' | h' <;> rw [h', hN] <;> omega) hnt
      (fun i hi hiw => hout.keep i (by rw [hN]; exact hi) (by rw [hwr]; exact hiw)) hdst
    unfold newOk at h2
    simp only [← hv] at h2
    rcases hout.len with hl | hl
    · rw [hN] at hl
      have hnone : s1.S[s.S.length]? = none := List.getElem?_eq_none (by omega)
      rw [hnone] at h2
      simp only [List.all_eq_true, decide_eq_true_eq] at h2
      refine Do1.of_op h ?_
      have he : (mkEv o.dst s.S.length nid (wrIds s o.op) s1).app o.dst s = ⟨putE o.dst (v) s.env, bakS (wrIds s o.op) 0 s.S s1.S, s.nt, s.pin⟩ := by
        unfold mkEv Ev.app
        rw [bakS_upd hl, hnone, ← hv, ren_id (x := v) fun j hj => by have := h2 j hj; unfold mvN; rw [if_neg (by omega)]]
        rfl
      rw [he]; exact hfr
    · rw [hN] at hl
      obtain ⟨ob, hob⟩ : ∃ ob, s1.S[s.S.length]? = some ob := ⟨_, List.getElem?_eq_getElem (by omega)⟩
      rw [hob] at h2
      simp only [Bool.and_eq_true, List.all_eq_true, decide_eq_true_eq] at h2
      obtain ⟨⟨h2a, h2b⟩, h2c⟩ := h2
      have hF : Fresh nid s := hf (by simp [mkEv, hob, getO])
      have hlt : nid < s.S.length := (List.getElem?_eq_some_iff.1 hF.gone).1
      refine Do1.of_sr fun w I L a hs => Do1.gh (Do1.of_op h hfr) ?_
      obtain ⟨ids1, ids2⟩ := hs.ids
      rw [bakS_upd1 hl hob]
      have hul : (updS (wrEv s1 (wrIds s o.op)) 0 s.S).length = s.S.length := updS_len
      have hobs : ∀ (i : Nat) (ob : Ob), (updS (wrEv s1 (wrIds s o.op)) 0 s.S)[i]? = some ob → ∀ j ∈ oids ob, j < (updS (wrEv s1 (wrIds s o.op)) 0 s.S).length ∧ j ≠ nid := by
        intro i ob' hi j hj
        rw [hul]
        rw [updS_get, Nat.zero_add, getO_wrEv, Option.map_eq_some_iff] at hi
        obtain ⟨ob0, hob0, hi⟩ := hi
        by_cases hw : i ∈ wrIds s o.op
        · rw [if_pos hw] at hi
          simp only [Option.getD_some] at hi
          subst hi
          exact (h2c i hw).2 j hj
        · rw [if_neg hw] at hi
          simp only [Option.getD_none] at hi
          subst hi
          exact ⟨ids2 i _ hob0 j hj, fun e => hF.obs i _ hob0 (e ▸ hj)⟩
      have hfill := Gh.fill (d := o.dst) (env := s.env) (S := updS (wrEv s1 (wrIds s o.op)) 0 s.S) (nt := s.nt) (pin := s.pin) (nid := nid) (v := v) (ob := ob)
        (by
          rw [updS_get, Nat.zero_add, getO_wrEv, hF.gone]
          have : nid ∉ wrIds s o.op := fun h' => (h2c nid h').1 rfl
          simp [this])
        hF.pin (fun t x hx j hj => ⟨by rw [hul]; exact ids1 t x hx j hj, fun e => hF.env t x hx (e ▸ hj)⟩) hobs (fun j hj => by rw [hul]; exact h2b j hj) (fun j hj => by rw [hul]; exact h2a j hj)
      rw [hul, updS_set hlt] at hfill
      have he : (mkEv o.dst s.S.length nid (wrIds s o.op) s1).app o.dst s = ⟨putE o.dst (ren (mvN s.S.length nid) v) s.env, updS ((nid, ob) :: wrEv s1 (wrIds s o.op)) 0 s.S, s.nt, s.pin⟩ := by
        unfold mkEv Ev.app
        rw [hob, ← hv]
        rfl
      rw [he]; exact hfill
  | @call fx args ts g caps xs cargs cS perm r0 S0 h ho hfx hxs hc hnd ha hpass hcall hb hd =>
    unfold callOkB at hb
    simp only [Bool.and_eq_true, List.all_eq_true, decide_eq_true_eq] at hb
    obtain ⟨⟨⟨⟨b1, b2⟩, b3⟩, b4⟩, b5⟩ := hb
    have hpl : ∀ i ∈ perm, i < s.S.length := fun i hi => (b3 i hi).1
    have hcall' := WpO.call h ho hfx hxs hc hp perm hnd hpl ha hpass hcall (rest := []) (all := all)
      (Q := fun e s1 => e = .normal ∧ s1 = ⟨putE o.dst (ren (σ1 s.S.length perm) r0) s.env, setAll s.S perm (renOs (σ1 s.S.length perm) (S0.take perm.length)) ++ renOs (σ1 s.S.length perm) (S0.drop perm.length), s.nt, s.pin⟩)
      (fun r S1 ⟨hr, hS⟩ => ⟨_, setS_eq hd, by subst hr; subst hS; exact WpO.nil ⟨rfl, rfl⟩⟩)
    have htl : perm.length = (S0.take perm.length).length := by rw [List.length_take]; omega
    rw [setAll_upd htl hnd hpl] at hcall'
    by_cases hS0 : S0.length = perm.length
    · have hdr : S0.drop perm.length = [] := List.drop_eq_nil_of_le (by omega)
      rw [if_pos hS0] at b4
      rw [hdr] at hcall'
      simp only [renOs, List.append_nil] at hcall'
      refine Do1.of_wpo ?_
      have he : Ev.app ⟨ren (mvN s.S.length nid) (ren (σ1 s.S.length perm) r0), callS s.S.length nid perm S0⟩ o.dst s =
          ⟨putE o.dst (ren (σ1 s.S.length perm) r0) s.env, updS (perm.zip (renOs (σ1 s.S.length perm) (S0.take perm.length))) 0 s.S, s.nt, s.pin⟩ := by
        unfold Ev.app callS
        rw [hdr, ren_id (x := ren (σ1 s.S.length perm) r0) fun j hj => by have := b4 j hj; unfold mvN; rw [if_neg (by omega)]]
        rfl
      rw [he]; exact hcall'
    · rw [if_neg hS0] at b4
      obtain ⟨ob, hob⟩ : ∃ ob, S0.drop perm.length = [ob] := by
        have : (S0.drop perm.length).length = 1 := by rw [List.length_drop]; omega
        exact List.length_eq_one_iff.1 this
      rw [hob] at hcall'
      simp only [renOs] at hcall'
      have hmem : ob ∈ S0 := List.mem_of_mem_drop (by rw [hob]; simp)
      have hmemr : ∀ ob ∈ S0, renO (σ1 s.S.length perm) ob ∈ renOs (σ1 s.S.length perm) S0 := by
        intro ob' h'
        obtain ⟨i, hi⟩ := List.getElem?_of_mem h'
        exact List.mem_of_getElem? (by rw [renOs_get, hi]; rfl)
      have hF : Fresh nid s := hf (by simp [callS, hob, getO])
      have hlt : nid < s.S.length := (List.getElem?_eq_some_iff.1 hF.gone).1
      refine Do1.of_sr fun w I L a hs => Do1.gh (Do1.of_wpo hcall') ?_
      obtain ⟨ids1, ids2⟩ := hs.ids
      have hul : (updS (perm.zip (renOs (σ1 s.S.length perm) (S0.take perm.length))) 0 s.S).length = s.S.length := updS_len
      have hobs : ∀ (i : Nat) (ob : Ob), (updS (perm.zip (renOs (σ1 s.S.length perm) (S0.take perm.length))) 0 s.S)[i]? = some ob → ∀ j ∈ oids ob, j < (updS (perm.zip (renOs (σ1 s.S.length perm) (S0.take perm.length))) 0 s.S).length ∧ j ≠ nid := by
        intro i ob' hi j hj
        rw [hul]
        rw [updS_get, Nat.zero_add, zip_get htl hnd, Option.map_eq_some_iff] at hi
        obtain ⟨ob0, hob0, hi⟩ := hi
        by_cases hw : i ∈ perm
        · rw [dif_pos hw] at hi
          have hlt' := List.idxOf_lt_length_of_mem hw
          rw [List.getElem?_eq_getElem (htl ▸ hlt')] at hi
          simp only [Option.map_some, Option.getD_some] at hi
          subst hi
          exact b5 _ (hmemr _ (List.mem_of_mem_take (List.getElem_mem _))) j hj
        · rw [dif_neg hw] at hi
          simp only [Option.getD_none] at hi
          subst hi
          exact ⟨ids2 i _ hob0 j hj, fun e => hF.obs i _ hob0 (e ▸ hj)⟩
      have hfill := Gh.fill (d := o.dst) (env := s.env) (S := updS (perm.zip (renOs (σ1 s.S.length perm) (S0.take perm.length))) 0 s.S) (nt := s.nt) (pin := s.pin) (nid := nid) (v := ren (σ1 s.S.length perm) r0) (ob := renO (σ1 s.S.length perm) ob)
        (by
          rw [updS_get, Nat.zero_add, zip_get htl hnd, hF.gone]
          have : nid ∉ perm := fun h' => (b3 nid h').2 rfl
          simp [this])
        hF.pin (fun t x hx j hj => ⟨by rw [hul]; exact ids1 t x hx j hj, fun e => hF.env t x hx (e ▸ hj)⟩) hobs (fun j hj => by rw [hul]; have := b4 j hj; exact ⟨by omega, this.2⟩) (fun j hj => by rw [hul]; exact b5 _ (hmemr _ hmem) j hj)
      rw [hul, updS_set hlt] at hfill
      have he : Ev.app ⟨ren (mvN s.S.length nid) (ren (σ1 s.S.length perm) r0), callS s.S.length nid perm S0⟩ o.dst s =
          ⟨putE o.dst (ren (mvN s.S.length nid) (ren (σ1 s.S.length perm) r0)) s.env, updS ((nid, renO (σ1 s.S.length perm) ob) :: perm.zip (renOs (σ1 s.S.length perm) (S0.take perm.length))) 0 s.S, s.nt, s.pin⟩ := by
        unfold Ev.app callS
        rw [hob]
        rfl
      rw [he]; exact hfill
end
end Go.Proofs.Ytaobnhenjldjeaa.Pay
/- Regions that draw their order: one walk in text order serves every order. No statement of the seed is proved here. -/
namespace Go.Proofs.Ytaobnhenjldjeaa.Pay
open Go Go.RowKit
set_option linter.unusedSimpArgs false
set_option linter.unusedVariables false

/-- An event with its place: d: its slot, lk: what slots it looks at, nid: the number kept for what is new, rd, sh: objects that it reads, st: it turns no object's length. -/
structure TrE where
  i : Nat
  d : Option Nat
  lk : List Nat
  e : Ev
  nid : Nat
  rd : List Nat
  sh : List Nat
  st : Bool

def TrE.mids (t : TrE) : List Nat := t.e.mods.map (·.1)
def evIds (e : Ev) : List Nat := fids e.v ++ e.mods.flatMap fun p => oids p.2

def stX (X : Nat → Bool) (s0 : St) : List TrE → St
  | [] => s0
  | t :: r => if X t.i = true then t.e.app t.d (stX X s0 r) else stX X s0 r

def TrOk (P : Program) (T : Nat → Option TI) (ops : Array Oper) (s0 : St) : List TrE → Prop
  | [] => True
  | t :: r => TrOk P T ops s0 r ∧ t.i = r.length ∧ ∃ o, ops[t.i]? = some o ∧ t.d = o.dst ∧ t.lk = looks ops o ∧ EvOk P T ops o (stX (fun _ => true) s0 r) t.nid t.e t.rd t.sh ∧
    (t.st = true → ∀ i : Nat, (((t.e.app t.d (stX (fun _ => true) s0 r)).S)[i]?).map shp = (((stX (fun _ => true) s0 r).S)[i]?).map shp)

/-- Operation i waits for operation j. -/
def dep1 (ops : Array Oper) (i j : Nat) : Bool := match ops[i]? with
  | none => false
  | some o => o.after.any fun e => Region.binds .any e && e.on == j
def dep2 (ops : Array Oper) (i j : Nat) : Bool := match ops[i]? with
  | none => false
  | some o => o.after.any fun e => Region.binds .any e && (e.on == j || dep1 ops e.on j)

def shpB (tr : List TrE) (i : Nat) : Bool := tr.all fun u => u.st || !u.mids.contains i
def touchB (tr : List TrE) (t u : TrE) : Bool :=
  (match u.d with | some d => t.lk.contains d || t.d == some d | none => false) || u.mids.any (fun i => t.rd.contains i || t.mids.contains i) || t.sh.any (fun i => !shpB tr i && u.mids.contains i) ||
    (t.mids.contains t.nid && (evIds u.e).contains t.nid)
def pairB (ops : Array Oper) (tr : List TrE) (t u : TrE) : Bool :=
  u.i == t.i || !touchB tr t u || (if u.i < t.i then dep2 ops t.i u.i && !(t.mids.contains t.nid && ((evIds u.e).contains t.nid || u.mids.contains t.nid)) else dep2 ops u.i t.i)
def chkB (ops : Array Oper) (N0 N1 : Nat) (tr : List TrE) : Bool :=
  tr.length == ops.size && (List.range ops.size).all (fun i => match ops[i]? with | none => true | some o => o.after.all fun e => !Region.binds .any e || decide (e.on < i)) &&
    tr.all fun t => (!t.mids.contains t.nid || decide (N0 ≤ t.nid ∧ t.nid < N1)) && tr.all fun u => pairB ops tr t u

section
variable {P : Program} {T : Nat → Option TI} {w w' : World} {I I' : Nat → Prop} {L L' : List Lay} {s s' s1 s2 s0 : St} {a : Act} {all ops : Array Oper} {o : Oper} {rest : List Oper} {Q : Exit → St → Prop} {c : Code} {X Y : Nat → Bool}

theorem getO_none {m : List (Nat × Ob)} {i : Nat} (h : i ∉ m.map (·.1)) : getO m i = none := by
  induction m with
  | nil => rfl
  | cons p r ih =>
    obtain ⟨j, o⟩ := p
    simp only [List.map_cons, List.mem_cons, not_or] at h
    simp only [getO]
    rw [if_neg (fun e => h.1 e.symm)]
    exact ih h.2
theorem getO_some {m : List (Nat × Ob)} {i : Nat} (h : i ∈ m.map (·.1)) : ∃ ob, getO m i = some ob := by
  induction m with
  | nil => simp at h
  | cons p r ih =>
    obtain ⟨j, o⟩ := p
    simp only [getO]
    by_cases hj : j = i
    · rw [if_pos hj]; exact ⟨_, rfl⟩
    · rw [if_neg hj]
      simp only [List.map_cons, List.mem_cons] at h
      exact ih (h.resolve_left fun e => hj e.symm)

theorem app_len {e : Ev} {d : Option Nat} : (e.app d s).S.length = s.S.length := by simp [Ev.app, updS_len]
theorem stX_len : ∀ {tr : List TrE}, (stX X s0 tr).S.length = s0.S.length ∧ (stX X s0 tr).nt = s0.nt ∧ (stX X s0 tr).pin = s0.pin
  | [] => ⟨rfl, rfl, rfl⟩
  | t :: r => by
    have ih := stX_len (tr := r)
    unfold stX
    split
    · exact ⟨app_len.trans ih.1, ih.2.1, ih.2.2⟩
    · exact ih

theorem app_get {e : Ev} {d : Option Nat} {t : Nat} (h : d ≠ some t) : get (e.app d s).env t = get s.env t := by
  unfold Ev.app putE
  cases d with
  | none => rfl
  | some d => simp only [get]; rw [if_neg (fun h' => h (by rw [h']))]
theorem app_S {e : Ev} {d : Option Nat} {i : Nat} (h : i ∉ e.mods.map (·.1)) : ((e.app d s).S)[i]? = s.S[i]? := by
  unfold Ev.app
  simp only
  rw [updS_get, Nat.zero_add, getO_none h]
  cases s.S[i]? <;> rfl

theorem stX_env {t : Nat} : ∀ {tr : List TrE}, (∀ u ∈ tr, u.d = some t → X u.i = Y u.i) → get (stX X s0 tr).env t = get (stX Y s0 tr).env t
  | [], _ => rfl
  | u :: r, h => by
    have ih := stX_env (tr := r) fun u' hu' => h u' (List.mem_cons_of_mem _ hu')
    unfold stX
    by_cases hd : u.d = some t
    · rw [← h u (List.mem_cons_self) hd]
      split
      · unfold Ev.app putE
        rw [hd]; simp [get]
      · exact ih
    · have h1 : get (if X u.i = true then u.e.app u.d (stX X s0 r) else stX X s0 r).env t = get (stX X s0 r).env t := by split; exact app_get hd; rfl
      have h2 : get (if Y u.i = true then u.e.app u.d (stX Y s0 r) else stX Y s0 r).env t = get (stX Y s0 r).env t := by split; exact app_get hd; rfl
      rw [h1, h2, ih]

theorem stX_S {i : Nat} : ∀ {tr : List TrE}, (∀ u ∈ tr, i ∈ u.mids → X u.i = Y u.i) → ((stX X s0 tr).S)[i]? = ((stX Y s0 tr).S)[i]?
  | [], _ => rfl
  | u :: r, h => by
    have ih := stX_S (tr := r) fun u' hu' => h u' (List.mem_cons_of_mem _ hu')
    unfold stX
    by_cases hd : i ∈ u.mids
    · rw [← h u (List.mem_cons_self) hd]
      split
      · unfold Ev.app
        simp only
        rw [updS_get, updS_get, ih]
      · exact ih
    · have h1 : ((if X u.i = true then u.e.app u.d (stX X s0 r) else stX X s0 r).S)[i]? = ((stX X s0 r).S)[i]? := by split; exact app_S hd; rfl
      have h2 : ((if Y u.i = true then u.e.app u.d (stX Y s0 r) else stX Y s0 r).S)[i]? = ((stX Y s0 r).S)[i]? := by split; exact app_S hd; rfl
      rw [h1, h2, ih]

theorem stX_shp {i : Nat} : ∀ {tr : List TrE}, TrOk P T ops s0 tr → (∀ u ∈ tr, u.st = true ∨ i ∉ u.mids) → ∀ (X : Nat → Bool), (((stX X s0 tr).S)[i]?).map shp = (s0.S[i]?).map shp
  | [], _, _, X => rfl
  | u :: r, htr, h, X => by
    have ih := stX_shp (tr := r) htr.1 (fun u' hu' => h u' (List.mem_cons_of_mem _ hu'))
    obtain ⟨_, _, o, _, _, _, _, hst⟩ := htr
    unfold stX
    split
    · by_cases hm : i ∈ u.mids
      · have h1 := hst ((h u List.mem_cons_self).resolve_right fun h' => h' hm) i
        rw [ih] at h1
        obtain ⟨ob, hob⟩ := getO_some hm
        unfold Ev.app at h1 ⊢
        simp only at h1 ⊢
        rw [updS_get, Nat.zero_add, hob] at h1 ⊢
        rw [← h1]
        have e1 := (stX_len (X := X) (s0 := s0) (tr := r)).1
        have e2 := (stX_len (X := fun _ => true) (s0 := s0) (tr := r)).1
        by_cases hi : i < s0.S.length
        · rw [List.getElem?_eq_getElem (by omega), List.getElem?_eq_getElem (by omega)]; rfl
        · rw [List.getElem?_eq_none (by omega), List.getElem?_eq_none (by omega)]
      · rw [app_S hm]; exact ih X
    · exact ih X

theorem tr_split : ∀ {tr : List TrE} {i : Nat}, TrOk P T ops s0 tr → i < tr.length → ∃ l t r, tr = l ++ t :: r ∧ t.i = i ∧ r.length = i ∧ TrOk P T ops s0 (t :: r) ∧ (∀ u ∈ l, i < u.i) ∧ ∀ u ∈ r, u.i < i
  | [], i, _, h => by simp at h
  | t :: r, i, htr, h => by
    have hlt : ∀ (r : List TrE), TrOk P T ops s0 r → ∀ u ∈ r, u.i < r.length := by
      intro r
      induction r with
      | nil => intro _ u hu; simp at hu
      | cons x r ih =>
        intro h u hu
        rcases List.mem_cons.1 hu with rfl | hu
        · simp [h.2.1]
        · have := ih h.1 u hu; simp; omega
    by_cases hi : i = r.length
    · subst hi
      exact ⟨[], t, r, rfl, htr.2.1, rfl, htr, by simp, hlt r htr.1⟩
    · obtain ⟨l, t', r', h1, h2, h3, h4, h5, h6⟩ := tr_split (i := i) htr.1 (by simp at h; omega)
      refine ⟨t :: l, t', r', by rw [h1]; rfl, h2, h3, h4, fun u hu => ?_, h6⟩
      rcases List.mem_cons.1 hu with rfl | hu
      · have := htr.2.1; simp at h; omega
      · exact h5 u hu

theorem stX_skip {l r : List TrE} (h : ∀ u ∈ l, Y u.i = false) : stX Y s0 (l ++ r) = stX Y s0 r := by
  induction l with
  | nil => rfl
  | cons u l ih =>
    simp only [List.cons_append, stX, h u List.mem_cons_self, Bool.false_eq_true, if_false]
    exact ih fun u' hu' => h u' (List.mem_cons_of_mem _ hu')
theorem stX_all {r : List TrE} (h : ∀ u ∈ r, Y u.i = true) : stX Y s0 r = stX (fun _ => true) s0 r := by
  induction r with
  | nil => rfl
  | cons u l ih =>
    simp only [stX, h u List.mem_cons_self, if_true]
    rw [ih fun u' hu' => h u' (List.mem_cons_of_mem _ hu')]

/-- Another way to write a state. -/
theorem SR.write (hs : SR w I L s a) (he : ∀ t, get s'.env t = get s.env t) (hS : s'.S = s.S) (hn : s'.nt = s.nt) : SR w I L s' a :=
  ⟨fun t x hx => hs.env t x (by rw [← he]; exact hx), by rw [hn]; exact hs.nt, by rw [hS]; exact hs.len, by rw [hS]; exact hs.obs, by rw [hS]; exact hs.nodup, by rw [hS]; exact hs.sep, hs.imm, hs.defers⟩

theorem dep1_spec {i j : Nat} (h : dep1 ops i j = true) : ∃ o, ops[i]? = some o ∧ ∃ e ∈ o.after, Region.binds .any e = true ∧ e.on = j := by
  unfold dep1 at h
  split at h
  · cases h
  · rename_i o ho
    simp only [Array.any_eq_true', Bool.and_eq_true, beq_iff_eq] at h
    obtain ⟨e, he, h1, h2⟩ := h
    exact ⟨o, ho, e, he, h1, h2⟩
theorem dep2_spec {i j : Nat} (h : dep2 ops i j = true) : ∃ o, ops[i]? = some o ∧ ∃ e ∈ o.after, Region.binds .any e = true ∧ (e.on = j ∨ dep1 ops e.on j = true) := by
  unfold dep2 at h
  split at h
  · cases h
  · rename_i o ho
    simp only [Array.any_eq_true', Bool.and_eq_true, beq_iff_eq, Bool.or_eq_true] at h
    obtain ⟨e, he, h1, h2⟩ := h
    exact ⟨o, ho, e, he, h1, h2⟩

def ClosedL (ops : Array Oper) (X : Nat → Bool) : Prop := ∀ i o, ops[i]? = some o → X i = true → ∀ e ∈ o.after, Region.binds .any e = true → X e.on = true
theorem ClosedL.dep (hc : ClosedL ops X) {i j : Nat} (h : dep2 ops i j = true) (hi : ∀ o, ops[i]? = some o → ∀ e ∈ o.after, Region.binds .any e = true → X e.on = true) : X j = true := by
  obtain ⟨o, ho, e, he, hb, h⟩ := dep2_spec h
  have h1 := hi o ho e he hb
  rcases h with h | h
  · rw [← h]; exact h1
  · obtain ⟨o', ho', e', he', hb', rfl⟩ := dep1_spec h
    exact hc _ o' ho' h1 e' he' hb'

def lst (listed : Array Bool) (i : Nat) : Bool := listed.getD i false
def unl (listed : Array Bool) : Nat → Nat
  | 0 => 0
  | n + 1 => unl listed n + if lst listed n = true then 0 else 1
theorem unl_set {listed : Array Bool} {i : Nat} (hi : i < listed.size) (hf : lst listed i = false) : ∀ n, i < n → unl (listed.setIfInBounds i true) n + 1 = unl listed n
  | 0, h => by omega
  | n + 1, h => by
    have hs : ∀ j, lst (listed.setIfInBounds i true) j = if i = j then true else lst listed j := by
      intro j
      unfold lst
      simp only [Array.getD_eq_getD_getElem?, Array.getElem?_setIfInBounds]
      split
      · simp [hi]
      · rfl
    have hlow : ∀ m, m ≤ i → unl (listed.setIfInBounds i true) m = unl listed m := by
      intro m
      induction m with
      | zero => intro _; rfl
      | succ m ih => intro hm; simp only [unl]; rw [ih (by omega), hs, if_neg (show ¬ i = m by omega)]
    simp only [unl]
    rw [hs]
    by_cases hn : i = n
    · subst hn; rw [hlow i (Nat.le_refl _)]; simp [hf]
    · rw [if_neg hn]
      have := unl_set hi hf n (by omega)
      omega
theorem unl_zero {listed : Array Bool} : ∀ n, unl listed n = 0 → ∀ i, i < n → lst listed i = true
  | 0, _, i, h => by omega
  | n + 1, h, i, hi => by
    simp only [unl] at h
    by_cases hn : i = n
    · subst hn
      by_cases hb : lst listed i = true
      · exact hb
      · rw [if_neg hb] at h; omega
    · exact unl_zero n (by omega) i (by omega)

/-- The state, whatever has come up, is the one that the events tell. -/
theorem wpAny_tr (hT : TabOk P T) {tr : List TrE} {N0 : Nat} {w0 : World} {I0 : Nat → Prop} {L0 : List Lay} (htr : TrOk P T ops s0 tr) (hck : chkB ops N0 s0.S.length tr = true) (hpin : s0.pin ≤ N0) (hpl : s0.pin ≤ s0.S.length)
    (hids : ∀ t x, get s0.env t = some x → ∀ j ∈ fids x, j < N0) (hobs : ∀ (i : Nat) (ob : Ob), s0.S[i]? = some ob → ∀ j ∈ oids ob, j < N0) (hgone : ∀ i, N0 ≤ i → i < s0.S.length → s0.S[i]? = some .gone)
    {Q' : Exit → Act → World → Prop} (hK : ∀ a w I L, SR w I L (stX (fun _ => true) s0 tr) a → Step w0 I0 L0 s0 w I L (stX (fun _ => true) s0 tr) → Q' .normal a w) :
    ∀ (fuel : Nat) (listed : Array Bool) (a : Act) (w : World) (I : Nat → Prop) (L : List Lay), listed.size = ops.size → ClosedL ops (lst listed) → unl listed ops.size = fuel →
      SR w I L (stX (lst listed) s0 tr) a → Step w0 I0 L0 s0 w I L (stX (lst listed) s0 tr) → wpAny P .any ops Q' fuel listed a w := by
  have hck' := hck
  unfold chkB at hck'
  simp only [Bool.and_eq_true, beq_iff_eq, List.all_eq_true, List.mem_range] at hck'
  obtain ⟨⟨hlen, hfwd⟩, hpair⟩ := hck'
  have hidx : ∀ u ∈ tr, u.i < ops.size := by
    intro u hu
    obtain ⟨l1, r1, hs⟩ := List.append_of_mem hu
    have : ∀ (r : List TrE), TrOk P T ops s0 r → ∀ u ∈ r, u.i < r.length := by
      intro r
      induction r with
      | nil => intro _ u hu; simp at hu
      | cons x r ih =>
        intro h u hu
        rcases List.mem_cons.1 hu with rfl | hu
        · simp [h.2.1]
        · have := ih h.1 u hu; simp; omega
    have := this tr htr u hu
    omega
  have hdone : ∀ (listed : Array Bool), (∀ i, i < ops.size → lst listed i = true) → stX (lst listed) s0 tr = stX (fun _ => true) s0 tr := fun listed h => stX_all fun u hu => h u.i (hidx u hu)
  intro fuel
  induction fuel with
  | zero =>
    intro listed a w I L hsz hcl hun hs ht
    have hall := unl_zero ops.size hun
    rw [hdone listed hall] at hs ht
    refine ⟨?_, hK a w I L hs ht⟩
    rw [List.eq_nil_iff_forall_not_mem]
    intro j hj
    obtain ⟨h1, o, ho, _⟩ := mem_ready.1 hj
    have hlt : j < ops.size := (Array.getElem?_eq_some_iff.1 ho).1
    have h2 := hall j hlt
    unfold lst at h2
    simp only [Array.getD_eq_getD_getElem?] at h1 h2
    rw [Array.getElem?_eq_getElem (by omega)] at h1 h2
    simp at h1 h2
    rw [h1] at h2; cases h2
  | succ fuel ih =>
    intro listed a w I L hsz hcl hun hs ht
    refine ⟨fun hnone => ?_, fun i hi => ?_⟩
    · -- the least that has not come up may come up
      exfalso
      have hex : ∃ i, i < ops.size ∧ lst listed i = false := by
        apply Classical.byContradiction
        intro hno
        have : ∀ n, n ≤ ops.size → unl listed n = 0 := by
          intro n
          induction n with
          | zero => intro _; rfl
          | succ n ih' =>
            intro hn
            simp only [unl]
            rw [ih' (by omega)]
            by_cases hb : lst listed n = true
            · simp [hb]
            · exact absurd ⟨n, by omega, by simpa using hb⟩ hno
        rw [this ops.size (Nat.le_refl _)] at hun
        omega
      obtain ⟨m, hm⟩ := hex
      have hleast : ∀ m, m < ops.size ∧ lst listed m = false → ∃ k, (k < ops.size ∧ lst listed k = false) ∧ ∀ j, j < k → lst listed j = true := by
        intro m
        induction m using Nat.strongRecOn with
        | _ m ihm =>
          intro hm
          by_cases h : ∃ j, j < m ∧ lst listed j = false
          · obtain ⟨j, h1, h2⟩ := h
            exact ihm j h1 ⟨by omega, h2⟩
          · refine ⟨m, hm, fun j hj => ?_⟩
            cases hb : lst listed j with
            | true => rfl
            | false => exact absurd ⟨j, hj, hb⟩ h
      obtain ⟨k, ⟨hk1, hk2⟩, hk3⟩ := hleast m hm
      have hk : k ∈ Region.ready .any ops listed := by
        refine mem_ready.2 ⟨?_, ops[k], Array.getElem?_eq_getElem hk1, fun e he hb => ?_⟩
        · unfold lst at hk2
          simp only [Array.getD_eq_getD_getElem?] at hk2 ⊢
          rw [Array.getElem?_eq_getElem (by omega)] at hk2 ⊢
          simpa using hk2
        · have := hfwd k hk1
          rw [Array.getElem?_eq_getElem hk1] at this
          simp only [Array.all_eq_true_iff_forall_mem, Bool.or_eq_true, Bool.not_eq_true', decide_eq_true_eq] at this
          have h1 := (this e he).resolve_left (by simp [hb])
          have := hk3 e.on h1
          exact this
      rw [hnone] at hk
      cases hk
    · obtain ⟨hi1, o, ho, hi2⟩ := mem_ready.1 hi
      have hlt : i < ops.size := (Array.getElem?_eq_some_iff.1 ho).1
      have hif : lst listed i = false := by
        unfold lst
        simp only [Array.getD_eq_getD_getElem?] at hi1 ⊢
        rw [Array.getElem?_eq_getElem (by omega)] at hi1 ⊢
        simpa using hi1
      have hwait : ∀ o', ops[i]? = some o' → ∀ e ∈ o'.after, Region.binds .any e = true → lst listed e.on = true := fun o' ho' e he hb => by
        rw [ho] at ho'; cases ho'; exact hi2 e he hb
      obtain ⟨l, t, r, htrs, hti, hrl, htok, hl, hr⟩ := tr_split htr (i := i) (by omega)
      have hmt : t ∈ tr := by rw [htrs]; simp
      obtain ⟨_, _, o', ho', htd, htl, hev, hst⟩ := htok
      rw [hti, ho] at ho'
      cases ho'
      -- the state in text order
      have htext : stX (fun j => decide (j < i)) s0 tr = stX (fun _ => true) s0 r := by
        rw [htrs, show l ++ t :: r = (l ++ [t]) ++ r by simp, stX_skip fun u hu => ?_]
        · exact stX_all fun u hu => by simpa using hr u hu
        · rcases List.mem_append.1 hu with hu | hu
          · have := hl u hu; simp; omega
          · simp at hu; subst hu; simp [hti]
      have hcmp : ∀ u ∈ tr, u.i ≠ i → touchB tr t u = true → lst listed u.i = decide (u.i < i) := by
        intro u hu hne htc
        have hp := (hpair t hmt).2 u hu
        unfold pairB at hp
        simp only [htc, hti, Bool.not_true, Bool.or_false, Bool.or_eq_true, beq_iff_eq, hne, false_or] at hp
        by_cases hlt' : u.i < i
        · rw [if_pos hlt'] at hp
          simp only [Bool.and_eq_true] at hp
          rw [hcl.dep hp.1 hwait]; simp [hlt']
        · rw [if_neg hlt'] at hp
          cases hb : lst listed u.i with
          | false => simp [hlt']
          | true =>
            have := hcl.dep hp fun o'' ho'' e he hb' => hcl u.i o'' ho'' hb e he hb'
            rw [hif] at this; cases this
      have hself : ∀ u ∈ tr, u.i = i → u = t := by
        intro u hu hui
        rw [htrs] at hu
        rcases List.mem_append.1 hu with hu | hu
        · have := hl u hu; omega
        · rcases List.mem_cons.1 hu with hu | hu
          · exact hu
          · have := hr u hu; omega
      have hagE : ∀ t' : Nat, (∀ u ∈ tr, u.d = some t' → u.i ≠ i → touchB tr t u = true) → get (stX (fun _ => true) s0 r).env t' = get (stX (lst listed) s0 tr).env t' := by
        intro t' h
        rw [← htext]
        refine stX_env fun u hu hd => ?_
        by_cases hui : u.i = i
        · rw [hui, hif]; simp
        · rw [hcmp u hu hui (h u hu hd hui)]
      have hagS : ∀ k : Nat, (∀ u ∈ tr, k ∈ u.mids → u.i ≠ i → touchB tr t u = true) → ((stX (fun _ => true) s0 r).S)[k]? = ((stX (lst listed) s0 tr).S)[k]? := by
        intro k h
        rw [← htext]
        refine stX_S fun u hu hd => ?_
        by_cases hui : u.i = i
        · rw [hui, hif]; simp
        · rw [hcmp u hu hui (h u hu hd hui)]
      have hev' : EvOk P T ops o (stX (lst listed) s0 tr) t.nid t.e t.rd t.sh := by
        refine hev.congr (by rw [stX_len.1, stX_len.1]) (by rw [stX_len.2.1, stX_len.2.1]) (fun t' ht' => hagE t' fun u hu hd hne => ?_) (fun k hk => hagS k fun u hu hd hne => ?_) fun k hk => ?_
        · unfold touchB
          rw [← htl] at ht'
          simp [hd, ht']
        · unfold touchB
          simp only [Bool.or_eq_true, List.any_eq_true]
          exact .inl (.inl (.inr ⟨k, hd, by simp [hk]⟩))
        · by_cases hsb : shpB tr k = true
          · have h1 : ∀ u ∈ tr, u.st = true ∨ k ∉ u.mids := by
              intro u hu
              unfold shpB at hsb
              have := List.all_eq_true.1 hsb u hu
              simpa using this
            rw [stX_shp htr h1, ← htext, stX_shp htr h1]
          · rw [hagS k fun u hu hd hne => ?_]
            unfold touchB
            simp only [Bool.or_eq_true, List.any_eq_true]
            exact .inl (.inr ⟨k, hk, by simp [hsb, hd]⟩)
      have hfresh : (getO t.e.mods t.nid).isSome = true → Fresh t.nid (stX (lst listed) s0 tr) := by
        intro hsome
        have hcr : t.nid ∈ t.mids := by
          apply Classical.byContradiction
          intro hno
          rw [getO_none hno] at hsome
          cases hsome
        have hbd : N0 ≤ t.nid ∧ t.nid < s0.S.length := by
          have := (hpair t hmt).1
          simpa [hcr] using this
        -- what has come up does not name it
        have hno : ∀ u ∈ tr, lst listed u.i = true → t.nid ∉ evIds u.e ∧ t.nid ∉ u.mids := by
          intro u hu hul
          have hne : u.i ≠ i := fun e => by rw [e, hif] at hul; cases hul
          have key : touchB tr t u = true → t.nid ∉ evIds u.e ∧ t.nid ∉ u.mids := by
            intro htc
            have hc := hcmp u hu hne htc
            rw [hul] at hc
            have hlt' : u.i < i := by simpa using hc.symm
            have hp := (hpair t hmt).2 u hu
            unfold pairB at hp
            simp only [htc, hti, Bool.not_true, Bool.or_false, Bool.or_eq_true, beq_iff_eq, hne, false_or, if_pos hlt', Bool.and_eq_true, Bool.not_eq_true', Bool.and_eq_false_iff] at hp
            have := hp.2.resolve_left (by simp [hcr])
            simpa using this
          refine ⟨fun h => ?_, fun h => ?_⟩
          · refine (key ?_).1 h
            unfold touchB
            simp [hcr, h]
          · refine (key ?_).2 h
            unfold touchB
            simp only [Bool.or_eq_true, List.any_eq_true]
            exact .inl (.inl (.inr ⟨t.nid, h, by simp [hcr]⟩))
        have hwalk : ∀ (r : List TrE), (∀ u ∈ r, lst listed u.i = true → t.nid ∉ evIds u.e ∧ t.nid ∉ u.mids) →
            ((stX (lst listed) s0 r).S[t.nid]? = some .gone) ∧ (∀ t' x, get (stX (lst listed) s0 r).env t' = some x → t.nid ∉ fids x) ∧ ∀ (k : Nat) (ob : Ob), (stX (lst listed) s0 r).S[k]? = some ob → t.nid ∉ oids ob := by
          intro r
          induction r with
          | nil =>
            intro _
            exact ⟨hgone _ hbd.1 hbd.2, fun t' x hx h => by have := hids t' x hx _ h; omega, fun k ob hk h => by have := hobs k ob hk _ h; omega⟩
          | cons u r ihr =>
            intro h
            obtain ⟨q1, q2, q3⟩ := ihr fun u' hu' => h u' (List.mem_cons_of_mem _ hu')
            unfold stX
            split
            · rename_i hul
              obtain ⟨n1, n2⟩ := h u List.mem_cons_self hul
              refine ⟨by rw [app_S n2]; exact q1, fun t' x hx hx' => ?_, fun k ob hk hk' => ?_⟩
              · by_cases hd : u.d = some t'
                · unfold Ev.app putE at hx
                  rw [hd] at hx
                  simp [get] at hx
                  subst hx
                  exact n1 (by unfold evIds; exact List.mem_append_left _ hx')
                · rw [app_get hd] at hx
                  exact q2 t' x hx hx'
              · unfold Ev.app at hk
                simp only at hk
                rw [updS_get, Nat.zero_add, Option.map_eq_some_iff] at hk
                obtain ⟨ob0, h0, hk⟩ := hk
                cases hg : getO u.e.mods k with
                | none => rw [hg] at hk; simp at hk; subst hk; exact q3 k _ h0 hk'
                | some ob1 =>
                  rw [hg] at hk
                  simp at hk
                  subst hk
                  have hmem : ∀ (m : List (Nat × Ob)), getO m k = some ob1 → (k, ob1) ∈ m := by
                    intro m
                    induction m with
                    | nil => intro h; cases h
                    | cons p m ihm =>
                      obtain ⟨j, o1⟩ := p
                      intro h
                      simp only [getO] at h
                      split at h
                      · rename_i hj; cases h; subst hj; simp
                      · exact List.mem_cons_of_mem _ (ihm h)
                  exact n1 (by unfold evIds; exact List.mem_append_right _ (List.mem_flatMap.2 ⟨_, hmem _ hg, hk'⟩))
            · exact ⟨q1, q2, q3⟩
        obtain ⟨q1, q2, q3⟩ := hwalk tr hno
        exact ⟨q1, by rw [stX_len.2.2]; omega, q2, q3⟩
      have hdo := hev'.do hT (by rw [stX_len.2.2, stX_len.1]; exact hpl) hfresh
      unfold wpOp
      simp only [ho]
      have hset : ∀ j, lst (listed.setIfInBounds i true) j = if i = j then true else lst listed j := by
        intro j
        unfold lst
        simp only [Array.getD_eq_getD_getElem?, Array.getElem?_setIfInBounds]
        split
        · simp [hsz, hlt]
        · rfl
      refine hdo w I L a hs _ Q' fun a' w1 I1 L1 hs1 ht1 => ?_
      -- what came up is told by the events
      have hwE : ∀ t', get (stX (lst (listed.setIfInBounds i true)) s0 tr).env t' = get (t.e.app o.dst (stX (lst listed) s0 tr)).env t' := by
        intro t'
        by_cases hd : t.d = some t'
        · have h1 : get (stX (fun j => decide (j ≤ i)) s0 tr).env t' = some t.e.v := by
            rw [htrs, stX_skip fun u hu => by have := hl u hu; simp; omega]
            simp only [stX, hti, Nat.le_refl, decide_true, if_true]
            unfold Ev.app putE
            rw [hd]; simp [get]
          have h2 : get (stX (lst (listed.setIfInBounds i true)) s0 tr).env t' = get (stX (fun j => decide (j ≤ i)) s0 tr).env t' := by
            refine stX_env fun u hu hud => ?_
            rw [hset]
            by_cases hui : i = u.i
            · simp [hui]
            · rw [if_neg hui, hcmp u hu (Ne.symm hui) (by unfold touchB; simp [hud, hd])]
              simp; omega
          rw [h2, h1, ← htd]
          unfold Ev.app putE
          rw [hd]; simp [get]
        · rw [← htd, app_get hd]
          refine stX_env fun u hu hud => ?_
          rw [hset, if_neg]
          intro hui
          rw [hself u hu hui.symm] at hud
          exact hd hud
      have hwS : (stX (lst (listed.setIfInBounds i true)) s0 tr).S = (t.e.app o.dst (stX (lst listed) s0 tr)).S := by
        apply List.ext_getElem?
        intro k
        by_cases hm : k ∈ t.mids
        · have h1 : (stX (fun j => decide (j ≤ i)) s0 tr).S[k]? = (t.e.app t.d (stX (fun _ => true) s0 r)).S[k]? := by
            rw [htrs, stX_skip fun u hu => by have := hl u hu; simp; omega]
            simp only [stX, hti, Nat.le_refl, decide_true, if_true]
            rw [stX_all fun u hu => by have := hr u hu; simp; omega]
          have h2 : (stX (lst (listed.setIfInBounds i true)) s0 tr).S[k]? = (stX (fun j => decide (j ≤ i)) s0 tr).S[k]? := by
            refine stX_S fun u hu hud => ?_
            rw [hset]
            by_cases hui : i = u.i
            · simp [hui]
            · rw [if_neg hui, hcmp u hu (Ne.symm hui) ?_]
              · simp; omega
              · unfold touchB
                simp only [Bool.or_eq_true, List.any_eq_true]
                exact .inl (.inl (.inr ⟨k, hud, by simp [hm]⟩))
          rw [h2, h1]
          obtain ⟨ob, hob⟩ := getO_some hm
          unfold Ev.app
          simp only
          rw [updS_get, updS_get, Nat.zero_add, hob]
          have e1 := (stX_len (X := lst listed) (s0 := s0) (tr := tr)).1
          have e2 := (stX_len (X := fun _ => true) (s0 := s0) (tr := r)).1
          by_cases hk : k < s0.S.length
          · rw [List.getElem?_eq_getElem (by omega), List.getElem?_eq_getElem (by omega)]; rfl
          · rw [List.getElem?_eq_none (by omega), List.getElem?_eq_none (by omega)]
        · rw [app_S hm]
          refine stX_S fun u hu hud => ?_
          rw [hset, if_neg]
          intro hui
          rw [hself u hu hui.symm] at hud
          exact hm hud
      have hs2 : SR w1 I1 L1 (stX (lst (listed.setIfInBounds i true)) s0 tr) a' := hs1.write hwE hwS (by rw [stX_len.2.1]; exact (stX_len (X := lst listed) (s0 := s0) (tr := tr)).2.1.symm)
      have ht2 : Step w0 I0 L0 s0 w1 I1 L1 (stX (lst (listed.setIfInBounds i true)) s0 tr) := by
        have := ht.trans ht1
        refine ⟨by rw [hwS]; exact this.evo, by rw [stX_len.2.2], this.lay⟩
      refine ih _ a' w1 I1 L1 (by simp [hsz]) ?_ ?_ hs2 ht2
      · intro j oj hoj hj e he hb
        rw [hset] at hj ⊢
        split
        · rfl
        · by_cases hij : i = j
          · subst hij
            rw [ho] at hoj; cases hoj
            exact hi2 e he hb
          · rw [if_neg hij] at hj
            exact hcl j oj hoj hj e he hb
      · have := unl_set (by omega) hif ops.size hlt
        omega
end
end Go.Proofs.Ytaobnhenjldjeaa.Pay
