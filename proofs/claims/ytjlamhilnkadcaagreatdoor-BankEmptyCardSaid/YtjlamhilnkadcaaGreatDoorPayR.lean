/- What a law is handed, as data: each parameter's cells, by its type. No statement of the seed is proved here. -/
import Derived.Test.YtjlamhilnkadcaaGreatDoorPayO
import Derived.ChangeSlices
import Derived.ChangeMaps5
import Derived.WideShapes
import Derived.ProofKit
import Derived.OpenShut
import Derived.ChangeOld
namespace Go.Proofs.YtjlamhilnkadcaaGreatDoor.Pay
open Go Go.RowKit
set_option linter.unusedVariables false
set_option linter.unusedSimpArgs false

def Fs (H : Nat → List D → Prop) : List (Nat × Nat) → List D → Prop
  | [], cs => cs = []
  | p :: r, cs => ∃ a b, cs = a ++ b ∧ H p.2 a ∧ Fs H r b

def elemD (i : TI) (ys : List D) : D := if i.ag = true then .agg ys else ys.headD .nil

/-- Data of a type. -/
def HasT (T : Nat → Option TI) : Nat → Nat → List D → Prop
  | 0, _, _ => False
  | f + 1, t, cs => match T t with
    | none => False
    | some i => match i.kind with
      | .bool => ∃ b, cs = [.bool b]
      | .int k => ∃ n, cs = [.int k n] ∧ k.min ≤ n ∧ n ≤ k.max
      | .str => ∃ s, cs = [.str s] ∧ s.length ≤ maxLen
      | .slice e => match T e with
        | none => False
        | some ei => ∃ xs, cs = [.list ei.size xs] ∧ xs.length ≤ maxLen ∧ ∀ x ∈ xs, ∃ ys, HasT T f e ys ∧ x = elemD ei ys
      | .struct fs => Fs (HasT T f) fs cs
      | _ => False

/-- The fields stand one behind the other. -/
def tileB (T : Nat → Option TI) : List (Nat × Nat) → Nat → Option Nat
  | [], o => some o
  | p :: r, o => if p.1 = o then (T p.2).bind fun i => tileB T r (o + i.size) else none

def goodB (T : Nat → Option TI) : Nat → Nat → Bool
  | 0, _ => false
  | f + 1, t => match T t with
    | none => false
    | some i => match i.kind with
      | .bool => i.size == 1
      | .int _ => i.size == 1
      | .str => i.size == 1
      | .slice e => i.size == 1 && goodB T f e && ((T e).map fun ei => (ei.ag || ei.size == 1) && ei.size != 0).getD false
      | .struct fs => tileB T fs 0 == some i.size && fs.all fun p => goodB T f p.2
      | _ => false

section
variable {P : Program} {T : Nat → Option TI} {H : Type} {enc : TypeId × Value → H} {w : World}

theorem cellsOf_eq (hT : TabOk P T) {t : Nat} {i : TI} (h : T t = some i) : P.cellsOf t = i.size := by
  obtain ⟨j, z, hj, h1, _⟩ := (hT _ _ h).info
  simp [Program.cellsOf, hj, h1]

theorem mapM_get {α β : Type} {f : α → Option β} : ∀ {l : List α} {r : List β}, l.mapM f = some r → r.length = l.length ∧ ∀ (i : Nat) (x : α), l[i]? = some x → ∃ y, f x = some y ∧ r[i]? = some y
  | [], r, h => by simp at h; subst h; simp
  | a :: l, r, h => by
    rw [List.mapM_cons] at h
    simp only [Option.bind_eq_bind, Option.bind_eq_some_iff, Option.pure_def, Option.some.injEq] at h
    obtain ⟨b, hb, rs, hr, rfl⟩ := h
    obtain ⟨h1, h2⟩ := mapM_get hr
    refine ⟨by simp [h1], fun i x hx => ?_⟩
    cases i with
    | zero => simp at hx; subst hx; exact ⟨b, hb, rfl⟩
    | succ i => simpa using h2 i x (by simpa using hx)

theorem cells_at {base : Nat} {a : Addr} {n : Nat} {cs : List Value} (h : w.cells? base a n = some cs) : cs.length = n ∧ ∀ i, i < n → ∃ v, w.cell? (a.add i) = some v ∧ cs[i]? = some v := by
  unfold World.cells? at h
  split at h
  · obtain ⟨h1, h2⟩ := mapM_get h
    refine ⟨by simpa using h1, fun i hi => ?_⟩
    exact h2 i i (List.getElem?_range hi)
  · cases h

def lt (w : World) (b : Nat) : Prop := b < w.heap.size

theorem cell_spot {a : Addr} {v : Value} (h : w.cell? a = some v) : a.spot = none ∧ a.block < w.heap.size := by
  unfold World.cell? at h
  split at h
  · rename_i c t fr hb
    split at h
    · cases h
    · rename_i hs
      refine ⟨by simpa using hs, ?_⟩
      exact (Array.getElem?_eq_some_iff.1 hb).1
  · cases h

theorem one_val {x : D} {v : Value} {I : Nat → Prop} (h : DRel w I x v) (h1 : v.oneCell' = true) : v.cells = #[v] := by
  cases v <;> simp_all [Value.oneCell', Value.cells]

/-- Elements, one behind the other. -/
theorem row_ok {I : Nat → Prop} {ei : TI} {b o : Nat} {Hd : List D → Prop} (hsz : ei.ag = true ∨ ei.size = 1) : ∀ (n : Nat), (∀ i, i < n → ∃ cs ds, cs.length = ei.size ∧ CellsAt w b (o + i * ei.size) cs ∧ DRelL w I ds cs ∧ Ones cs ∧ Hd ds) →
    ∃ xs vs, xs.length = n ∧ DRelR w I ei.size xs vs ∧ CellsAt w b o vs ∧ ∀ x ∈ xs, ∃ ys, Hd ys ∧ x = elemD ei ys
  | 0, _ => ⟨[], [], rfl, by simp [DRelR], fun j v hv => by simp at hv, by simp⟩
  | n + 1, h => by
    obtain ⟨xs, vs, h1, h2, h3, h4⟩ := row_ok hsz n fun i hi => h i (by omega)
    obtain ⟨cs, ds, k1, k2, k3, k4, k5⟩ := h n (by omega)
    have hv : ∃ v, v.cells.toList = cs ∧ DRel w I (elemD ei ds) v := by
      unfold elemD
      by_cases hag : ei.ag = true
      · rw [if_pos hag]
        exact ⟨.agg cs.toArray, by simp [Value.cells], by simp only [DRel]; exact ⟨cs, rfl, k4, k3⟩⟩
      · rw [if_neg hag]
        have h1' : ei.size = 1 := by rcases hsz with h | h; exact absurd h hag; exact h
        rw [h1'] at k1
        obtain ⟨v, rfl⟩ := List.length_eq_one_iff.1 k1
        have hl := k3.length
        simp at hl
        obtain ⟨d, rfl⟩ := List.length_eq_one_iff.1 hl.symm
        simp only [DRelL] at k3
        obtain ⟨v', r, he, hd, _⟩ := k3
        cases he
        exact ⟨v, by rw [one_val hd (k4 v (by simp))], by simpa using hd⟩
    obtain ⟨v, hvc, hvd⟩ := hv
    have hlen := h2.length
    rw [h1] at hlen
    refine ⟨xs ++ [elemD ei ds], vs ++ cs, by simp [h1], h2.append (by simp only [DRelR]; exact ⟨v, [], by rw [hvc]; simp, by rw [← Array.length_toList, hvc, k1], hvd, rfl⟩), fun j u hu => ?_, fun x hx => ?_⟩
    · by_cases hj : j < vs.length
      · rw [List.getElem?_append_left hj] at hu; exact h3 j u hu
      · rw [List.getElem?_append_right (by omega)] at hu
        have := k2 _ u hu
        rwa [hlen, show o + n * ei.size + (j - n * ei.size) = o + j by omega] at this
    · rw [List.mem_append] at hx
      rcases hx with hx | hx
      · exact h4 x hx
      · simp at hx; exact ⟨ds, k5, hx⟩

theorem wf_int {k : IntKind} {n : Int} (h : (Lit.int k n).wf = true) : k.min ≤ n ∧ n ≤ k.max := by
  simpa [Lit.wf] using h

/-- Cells of a type are data of it. -/
theorem open_cells (hT : TabOk P T) : ∀ (g fuel t : Nat) (cs : List Value) (x : DataW H × List MemPlace), goodB T g t = true → DataW.trod enc P w 0 (fun _ => true) true fuel t cs = some x →
    ∃ ds i, T t = some i ∧ cs.length = i.size ∧ DRelL w (lt w) ds cs ∧ Ones cs ∧ HasT T g t ds
  | 0, _, _, _, _, hg, _ => by simp [goodB] at hg
  | g + 1, fuel, t, cs, x, hg, h => by
    unfold goodB at hg
    cases hti : T t with
    | none => rw [hti] at hg; simp at hg
    | some i =>
      rw [hti] at hg
      have hk := (hT _ _ hti).kind
      have hcz := cellsOf_eq hT hti
      simp only at hg
      unfold HasT
      simp only [hti]
      cases hkd : i.kind <;> rw [hkd] at hk hg <;> simp only [TKOk] at hk <;> simp only at hg
      case bool =>
        obtain ⟨b, rfl, _⟩ := DataW.trod_bool hk h
        exact ⟨[.bool b], i, rfl, by simpa using (beq_iff_eq.1 hg).symm, by simp [DRelL, DRel], by simp [Ones, Value.oneCell'], b, rfl⟩
      case int k =>
        obtain ⟨n, rfl, _, hw⟩ := DataW.trod_int hk h
        exact ⟨[.int k n], i, rfl, by simpa using (beq_iff_eq.1 hg).symm, by simp [DRelL, DRel], by simp [Ones, Value.oneCell'], n, rfl, wf_int hw⟩
      case str =>
        obtain ⟨s, rfl, _, hw⟩ := DataW.trod_string hk h
        refine ⟨[.str s.data.toList], i, rfl, by simpa using (beq_iff_eq.1 hg).symm, by simp [DRelL, DRel], by simp [Ones, Value.oneCell'], _, rfl, ?_⟩
        simpa using hw
      case slice e =>
        simp only [Bool.and_eq_true] at hg
        obtain ⟨⟨hg1, hg2⟩, hg3⟩ := hg
        cases hei : T e with
        | none => rw [hei] at hg3; simp at hg3
        | some ei =>
          rw [hei] at hg3
          simp at hg3
          obtain ⟨hg3, hg4⟩ := hg3
          have hce := cellsOf_eq hT hei
          simp only
          rcases DataW.trod_slice hk h with ⟨rfl, _⟩ | ⟨a, len, cap, elems, rest, n, _, rfl, _, hb, hl, hm, hlen, hel, _⟩
          · exact ⟨[.list ei.size []], i, rfl, by simpa using (beq_iff_eq.1 hg1).symm, by simp only [DRelL, DRel]; exact ⟨_, [], rfl, ⟨none, 0, by simp, by simp, .inl trivial⟩, rfl⟩, by simp [Ones, Value.oneCell'], by simp only [hei]; exact ⟨[], rfl, by simp, by simp⟩⟩
          · have hget : ∀ j, j < len → ∃ cj y, w.cells? 0 (a.add (j * ei.size)) ei.size = some cj ∧ DataW.trod enc P w 0 (fun _ => true) true n e cj = some y := by
              intro j hj
              have h1 := hel j hj
              rw [List.getElem?_eq_getElem (by omega), Option.bind_eq_some_iff] at h1
              obtain ⟨cj, hcj, htj⟩ := h1
              rw [hce] at hcj
              exact ⟨cj, _, hcj, htj⟩
            by_cases h0 : len = 0
            · subst h0
              exact ⟨[.list ei.size []], i, rfl, by simpa using (beq_iff_eq.1 hg1).symm, by simp only [DRelL, DRel]; exact ⟨_, [], rfl, ⟨some a, cap, by simp, by simp, .inl trivial⟩, rfl⟩, by simp [Ones, Value.oneCell'], by simp only [hei]; exact ⟨[], rfl, by simp, by simp⟩⟩
            obtain ⟨c0, _, hc0, _⟩ := hget 0 (by omega)
            obtain ⟨_, q2⟩ := cells_at hc0
            obtain ⟨u, hu, _⟩ := q2 0 (by omega)
            have hu' : w.cell? a = some u := by simpa [Addr.add] using hu
            obtain ⟨hsp, hlt⟩ := cell_spot hu'
            obtain ⟨ab, ao, asp⟩ := a
            simp only at hsp hlt
            subst hsp
            have hrow : ∀ j, j < len → ∃ cs ds, cs.length = ei.size ∧ CellsAt w ab (ao + j * ei.size) cs ∧ DRelL w (lt w) ds cs ∧ Ones cs ∧ HasT T g e ds := by
              intro j hj
              obtain ⟨cj, y, hcj, htj⟩ := hget j hj
              obtain ⟨q1, q2⟩ := cells_at hcj
              obtain ⟨dj, i', hi', r1, r2, r3, r4⟩ := open_cells hT g _ e cj _ hg2 htj
              refine ⟨cj, dj, q1, fun m v hv => ?_, r2, r3, r4⟩
              have hm' : m < ei.size := by rw [← q1]; exact (List.getElem?_eq_some_iff.1 hv).1
              obtain ⟨u, hu, hcu⟩ := q2 m hm'
              rw [hv] at hcu
              cases hcu
              rw [Addr.add_lit, Addr.add_lit] at hu
              exact hu
            obtain ⟨xs, vs, e1, e2, e3, e4⟩ := row_ok hg3 len hrow
            refine ⟨[.list ei.size xs], i, rfl, by simpa using (beq_iff_eq.1 hg1).symm, ?_, by simp [Ones, Value.oneCell'], by simp only [hei]; exact ⟨xs, rfl, by omega, e4⟩⟩
            simp only [DRelL, DRel]
            exact ⟨_, [], rfl, ⟨some ⟨ab, ao, none⟩, cap, by rw [e1], by omega, .inr ⟨ab, ao, vs, rfl, hlt, e3, e2⟩⟩, rfl⟩
      case struct fs =>
        simp only [Bool.and_eq_true, beq_iff_eq, List.all_eq_true] at hg
        obtain ⟨hg1, hg2⟩ := hg
        obtain ⟨d, hd, he⟩ := hk
        obtain ⟨xs, n, _, _, hlen, hxl, hall⟩ := DataW.trod_struct hd h
        rw [hcz] at hlen
        have key : ∀ (l : List Field) (o : Nat), (∀ f ∈ l, ∃ y, DataW.trod enc P w 0 (fun _ => true) true n f.type ((cs.drop f.offset).take (P.cellsOf f.type)) = some y) → (∀ f ∈ l, goodB T g f.type = true) →
            tileB T (l.map fun f => (f.offset, f.type)) o = some i.size → ∃ ds, DRelL w (lt w) ds (cs.drop o) ∧ Ones (cs.drop o) ∧ Fs (HasT T g) (l.map fun f => (f.offset, f.type)) ds := by
          intro l
          induction l with
          | nil =>
            intro o _ _ ht
            simp [tileB] at ht
            subst ht
            rw [List.drop_eq_nil_of_le (by omega)]
            exact ⟨[], by simp [DRelL], by simp [Ones], by simp [Fs]⟩
          | cons f r ihl =>
            intro o hy hgd ht
            simp only [List.map_cons, tileB] at ht
            split at ht
            · rename_i hfo
              simp only [Option.bind_eq_some_iff] at ht
              obtain ⟨fi, hfi, ht⟩ := ht
              obtain ⟨y, hy0⟩ := hy f (by simp)
              obtain ⟨d1, fi', k1, k2, k3, k4, k5⟩ := open_cells hT g _ f.type _ _ (hgd f (by simp)) hy0
              rw [hfi] at k1
              cases k1
              obtain ⟨d2, m1, m2, m3⟩ := ihl (o + fi.size) (fun f' hf' => hy f' (by simp [hf'])) (fun f' hf' => hgd f' (by simp [hf'])) ht
              rw [hfo, cellsOf_eq hT hfi] at k2 k3 k4
              have hsplit : cs.drop o = (cs.drop o).take fi.size ++ cs.drop (o + fi.size) := by
                rw [← List.drop_drop, List.take_append_drop]
              refine ⟨d1 ++ d2, ?_, ?_, ?_⟩
              · rw [hsplit]; exact DRelL.append k3 m1
              · rw [hsplit]
                intro v hv
                rw [List.mem_append] at hv
                rcases hv with hv | hv
                · exact k4 v hv
                · exact m2 v hv
              · simp only [List.map_cons, Fs]
                exact ⟨d1, d2, rfl, k5, m3⟩
            · cases ht
        obtain ⟨ds, m1, m2, m3⟩ := key d.toList 0 (fun f hf => by
            obtain ⟨j, hj⟩ := List.getElem?_of_mem hf
            have hj' : d[j]? = some f := by simpa using hj
            have hjx : j < xs.length := by rw [hxl]; exact (Array.getElem?_eq_some_iff.1 hj').1
            exact ⟨xs[j], by rw [hall j f hj', List.getElem?_eq_getElem hjx]⟩)
          (fun f hf => hg2 (f.offset, f.type) (by rw [← he]; exact List.mem_map.2 ⟨f, hf, rfl⟩)) (by rw [he]; exact hg1)
        rw [he] at m3
        exact ⟨ds, i, rfl, hlen, by simpa using m1, by simpa using m2, m3⟩
      all_goals cases hg

/-! ### A law's arguments and its end -/

theorem arg_ok (hT : TabOk P T) {g t : Nat} {v : Value} {d : DataW H} {ps : List MemPlace} {r : Reach} {b0 : Nat} (hg : goodB T g t = true) (hval : Value.okWide P w r b0 t v) (h : DataW.Trod enc P w 0 (fun _ => true) true t v d ps) :
    ∃ ds i, T t = some i ∧ HasT T g t ds ∧ DRel w (lt w) (elemD i ds) v := by
  obtain ⟨fuel, hf⟩ := h
  obtain ⟨ds, i, hti, hlen, hr, ho, hh⟩ := open_cells hT g fuel t _ _ hg hf
  refine ⟨ds, i, hti, hh, ?_⟩
  have hk := (hT _ _ hti).kind
  have one : v.cells = #[v] → i.ag = false → DRel w (lt w) (elemD i ds) v := fun hc hag => by
    rw [hc] at hr
    have hl := hr.length
    simp at hl
    obtain ⟨x, rfl⟩ := List.length_eq_one_iff.1 hl.symm
    simp only [DRelL] at hr
    obtain ⟨v', q, he, hd, _⟩ := hr
    cases he
    simpa [elemD, hag] using hd
  have hgd := hg
  cases g with
  | zero => simp [goodB] at hg
  | succ g =>
    unfold goodB at hg
    rw [hti] at hg
    simp only at hg
    cases hkd : i.kind <;> rw [hkd] at hk hg <;> simp only [TKOk] at hk <;> simp only at hg
    case bool => obtain ⟨b, rfl⟩ := WideShapes.okWide_bool hk hval; exact one (by simp [Value.cells]) (by simp [TI.ag, hkd])
    case int k => obtain ⟨b, rfl⟩ := WideShapes.okWide_int hk hval; exact one (by simp [Value.cells]) (by simp [TI.ag, hkd])
    case str => obtain ⟨b, rfl⟩ := WideShapes.okWide_string hk hval; exact one (by simp [Value.cells]) (by simp [TI.ag, hkd])
    case slice e => obtain ⟨a, l, c, rfl⟩ := WideShapes.okWide_slice hk hval; exact one (by simp [Value.cells]) (by simp [TI.ag, hkd])
    case struct fs =>
      obtain ⟨d, hd, _⟩ := hk
      obtain ⟨cs, rfl, _⟩ := WideShapes.okWide_struct hd hval
      have hag : i.ag = true := by simp [TI.ag, hkd]
      simp only [elemD, hag, if_true, DRel]
      exact ⟨cs.toList, by simp, by simpa [Value.cells] using ho, by simpa [Value.cells] using hr⟩
    all_goals cases hg

/-- A walk, as a row wants it. -/
theorem WpF.law {f : FuncId} {args : List FV} {vs : List Value} {R : FV → List Ob → Prop} (h : WpF P f args [] R) (hR : ∀ r S, R r S → r = .d (.bool true)) (ha : VRelL w (lt w) [] args vs) (hG : GOk w (lt w) := by exact fun p hp => by simp [gT] at hp) :
    Calls P f vs.toArray w fun e w' => e = .returned (.bool true) ∧ Below w.heap.size w w' := by
  refine (h w (lt w) [] vs ha ⟨rfl, fun i o l h => by simp at h, by simp [owns], fun b hb => by simp [owns] at hb, ⟨fun b hb => hb, hG⟩⟩).mono fun e w' ⟨r, v, S', I', L', he, hq, hv, _, evo, _, _⟩ => ?_
  have := hR _ _ hq
  subst this
  simp only [VRel, DRel] at hv
  subst hv
  exact ⟨he, evo.os, evo.tape, evo.output, evo.size, fun b hb => evo.keep b hb (by simp [owns])⟩
end
end Go.Proofs.YtjlamhilnkadcaaGreatDoor.Pay
