/- Makes, literals, appends. No statement of the seed is proved here. -/
import Derived.Test.YtjlamhilnkadcaaGreatDoorPayG
namespace Go.Proofs.YtjlamhilnkadcaaGreatDoor.Pay
open Go Go.RowKit
set_option linter.unusedVariables false
set_option linter.unusedSimpArgs false

section
variable {P : Program} {T : Nat → Option TI} {w w' : World} {I : Nat → Prop} {L : List Lay} {s s' : St} {a : Act}

/-! ### Rows of the call's own -/

/-- A new row, that nobody has seen. -/
theorem newRow_ok (hs : SR w I L s a) (hp : s.pin ≤ s.S.length) {e : TypeId} {k n : Nat} {vs : List Value} {xs : List D} (hr : DRelR w I k xs vs) (hn : xs.length = n) (hm : n ≤ maxLen) (hsz : vs.length = n * k) :
    SR (w.alloc (.cells vs.toArray e)) I (L ++ [.a (some w.heap.size) n]) { s with S := s.S ++ [.arr e k xs] } a ∧
    Step w I L s (w.alloc (.cells vs.toArray e)) I (L ++ [.a (some w.heap.size) n]) { s with S := s.S ++ [.arr e k xs] } ∧
    VRel (w.alloc (.cells vs.toArray e)) I (L ++ [.a (some w.heap.size) n]) (.sl s.S.length n) (.slice (some ⟨w.heap.size, 0, none⟩) n n) := by
  have hsz1 : (w.alloc (.cells vs.toArray e)).heap.size = w.heap.size + 1 := by simp
  have hw := heapAlloc w (.cells vs.toArray e)
  have hown : ∀ b ∈ own (.arr e k xs) (.a (some w.heap.size) n), w.heap.size ≤ b ∧ b < (w.alloc (.cells vs.toArray e)).heap.size := by
    intro b hb; simp [own] at hb; subst hb; omega
  have ho : (w.alloc (.cells vs.toArray e)).ownsRow 0 e k (.slice (some ⟨w.heap.size, 0, none⟩) n n) n vs := by
    have := World.ownsRow_lit (base := 0) (e := e) (size := k) w vs.toArray n (Nat.zero_le _) hm (by simpa using hsz)
    simpa using this
  subst hn
  refine ⟨hs.more hw (by omega) (.inl ⟨some w.heap.size, xs.length, vs, rfl, ho, DRelR.mono (fun b hb => hw b (hs.imm b hb)) (fun _ h => h) _ _ _ hr⟩) hown (by simp [own]),
    Step.more hs hw rfl rfl rfl (by omega) hown hp, ?_⟩
  simp only [VRel]
  exact ⟨.a (some w.heap.size) xs.length, _, _, by rw [List.getElem?_append_right (by rw [hs.len]; exact Nat.le_refl _), hs.len]; simp, rfl, rfl⟩

/-- The zero value of a type, as an element. -/
def TI.zeroD (i : TI) : D := if i.ag = true then .agg i.zero else i.zero.headD .nil

theorem toList_madeCells (z : Array Value) (k : Nat) (hz : z.size = k) : ∀ n, (madeCells z (n * k)).toList = (List.replicate n z.toList).flatten
  | 0 => by simp [madeCells]
  | n + 1 => by
    rw [List.replicate_succ', List.flatten_append, ← toList_madeCells z k hz n]
    apply List.ext_getElem?
    intro j
    simp only [madeCells, Array.toList_map, Array.toList_range, List.getElem?_map, List.flatten_cons, List.flatten_nil, List.append_nil, List.getElem?_append, List.length_map, List.length_range]
    by_cases h1 : j < n * k
    · simp only [h1, if_true]
      rw [List.getElem?_range (by rw [Nat.succ_mul]; omega), List.getElem?_range h1]
    · simp only [h1, if_false]
      by_cases h2 : j < (n + 1) * k
      · rw [List.getElem?_range h2]
        have hk : j - n * k < k := by rw [Nat.succ_mul] at h2; omega
        have hm : j % k = j - n * k := by
          have : j = (j - n * k) + n * k := by omega
          rw [this, Nat.add_mul_mod_self_right, Nat.mod_eq_of_lt (by omega)]
          omega
        have hlt : j - n * k < z.size := by omega
        rw [Option.map_some, hz, hm, Array.getElem?_toList, Array.getElem?_eq_getElem hlt, getElem!_pos z _ hlt]
      · rw [List.getElem?_eq_none (by simp; omega), List.getElem?_eq_none (by simp [hz]; rw [Nat.succ_mul] at h2; omega)]
        rfl

theorem zeroD_ok {t : TypeId} {i : TI} (hi : TIOk P t i) (h1 : i.ag = true ∨ i.size = 1) : ∃ z v, (zeroValue t).run P w = .ok z w ∧ DRel w I i.zeroD v ∧ v.cells = z.cells ∧ v.cells.size = i.size := by
  obtain ⟨z, hz, hl, hsz⟩ := hi.zeroValue (w := w)
  obtain ⟨e1, e2⟩ := ofLeaves_ok (w := w) (I := I) hl
  unfold TI.zeroD
  cases hag : i.ag with
  | true =>
    refine ⟨z, .agg z.cells, hz, ?_, rfl, hsz⟩
    simp only [if_true, DRel]
    exact ⟨z.cells.toList, by simp, e2, e1⟩
  | false =>
    have h1' : i.size = 1 := by simpa [hag] using h1
    have hlen := e1.length
    rw [Array.length_toList, hsz, h1'] at hlen
    cases hzz : i.zero with
    | nil => rw [hzz] at hlen; simp at hlen
    | cons x r =>
      have hr0 : r = [] := by rw [hzz] at hlen; simp at hlen; exact hlen
      subst hr0
      rw [hzz] at e1
      simp only [DRelL] at e1
      obtain ⟨v, q, hq, hv, rfl⟩ := e1
      refine ⟨z, v, hz, by simpa using hv, ?_, ?_⟩
      · have h1v : v.oneCell' = true := e2 v (by rw [hq]; simp)
        have : v.cells = #[v] := by cases v <;> first | rfl | (simp [Value.oneCell'] at h1v)
        rw [this]
        apply Array.ext'
        rw [hq]
      · have h1v : v.oneCell' = true := e2 v (by rw [hq]; simp)
        have : v.cells = #[v] := by cases v <;> first | rfl | (simp [Value.oneCell'] at h1v)
        rw [this, h1']; rfl

theorem DRelR.replicate {k : Nat} {x : D} {v : Value} (hx : DRel w I x v) (hk : v.cells.size = k) : ∀ n, DRelR w I k (List.replicate n x) (List.replicate n v.cells.toList).flatten
  | 0 => by simp [DRelR]
  | n + 1 => by
    simp only [List.replicate_succ, List.flatten_cons, DRelR]
    exact ⟨v, _, rfl, hk, hx, DRelR.replicate hx hk n⟩

def okEl (i : TI) : Bool := i.ag || i.size == 1

theorem OpOk.make (hT : TabOk P T) {o : Oper} {t e : TypeId} {i ei : TI} {lx cx : Operand} {k1 k2 : IntKind} {n : Int} (ho : o.op = .makeSlice t lx cx) (hi : T t = some i) (hk : i.kind = .slice e) (hei : T e = some ei)
    (hl : evX s lx = some (.d (.int k1 n))) (hc : evX s cx = some (.d (.int k2 n))) (h0 : 0 ≤ n) (hb : ei.bytes * n.toNat ≤ 281474976710656) (hm : n.toNat ≤ maxLen) (hok : okEl ei = true) (hp : s.pin ≤ s.S.length)
    (hset : setS { s with S := s.S ++ [.arr e ei.size (List.replicate n.toNat ei.zeroD)] } o.dst (.sl s.S.length n.toNat) = some s') : OpOk P o s s' := fun w I L a hs => by
  have hI := (hT _ _ hi).kind
  rw [hk] at hI
  simp only [TKOk] at hI
  obtain ⟨j, z, hj, e1, e2, e3, e4, e5⟩ := (hT _ _ hei).info
  obtain ⟨z', v, hz', hv, hvc, hvs⟩ := zeroD_ok (w := w) (I := I) (hT _ _ hei) (by simpa [okEl] using hok)
  have hzz : z' = z := by
    have : (zeroValue e).run P w = .ok z w := by simp [Go.zeroValue, typeInfo, hj, e3]
    rw [this] at hz'
    cases hz'; rfl
  subst hzz
  obtain ⟨m, rfl⟩ := Int.eq_ofNat_of_zero_le h0
  simp only [Int.toNat_natCast] at hb hm hset
  have hb1 : (j.bytes : Int) * (m : Int) ≤ 281474976710656 := by
    have h : ((ei.bytes * m : Nat) : Int) ≤ 281474976710656 := by omega
    rw [e2]
    rwa [Int.natCast_mul] at h
  have hm1 : (m : Int) ≤ 9223372036854775807 := by have h := hm; simp [maxLen] at h; omega
  have hr := run_make (P := P) w t e j z' hI hj e3 k1 k2 m m (by omega) (Int.le_refl _) hb1 hm1
  simp only [Int.toNat_natCast] at hr
  have hcells : madeCells z'.cells (m * j.size) = (List.replicate m z'.cells.toList).flatten.toArray := by
    apply Array.ext'
    rw [toList_madeCells z'.cells j.size (by rw [e5, e1]) m]
  rw [hcells] at hr
  have hrep := DRelR.replicate hv hvs m
  rw [hvc] at hrep
  obtain ⟨h1, h2, h3⟩ := newRow_ok hs hp (e := e) (n := m) hrep (by simp) hm (by rw [hrep.length]; simp)
  obtain ⟨h4, h5⟩ := put_step h1 h2 h3 hset
  have q1 := hs.evX hl
  have q2 := hs.evX hc
  simp only [VRel, DRel] at q1 q2
  refine ⟨_, _, I, _, _, ?_, .inl rfl, h4, h5⟩
  unfold execOp
  simp only [ho, q1, q2, Sem.run_bind, hr, Result.andThen_ok, Sem.run_pure]

/-! ### Literals -/

/-- The elements of a literal, in order, all data. -/
def partsD (s : St) : Nat → List (Nat × Operand) → Option (List D)
  | _, [] => some []
  | n, (i, x) :: r => if i = n then (match evX s x with
    | some (.d x) => (partsD s (n + 1) r).map (x :: ·)
    | _ => none) else none

theorem fill_ok {k : Nat} : ∀ {ps : List (Nat × Operand)} {xs : List D} {n : Nat} {pre rest : List Value}, partsD s n ps = some xs → SR w I L s a → (∀ p ∈ ps, (a.eval p.2).cells.size = k) → pre.length = n * k → rest.length = ps.length * k →
    ∃ vs, Instr.fill (fun i => some (i * k, k)) (pre ++ rest).toArray (ps.map fun (i, x) => (i, a.eval x)) = some (pre ++ vs).toArray ∧ DRelR w I k xs vs ∧ vs.length = ps.length * k
  | [], xs, n, pre, rest, h, _, _, _, hr => by
    simp [partsD] at h; subst h
    have : rest = [] := List.eq_nil_of_length_eq_zero (by simpa using hr)
    subst this
    exact ⟨[], by simp [Instr.fill], by simp [DRelR], by simp⟩
  | (i, x) :: ps, xs, n, pre, rest, h, hs, hk, hp, hr => by
    unfold partsD at h
    split at h
    · rename_i hin; subst hin
      split at h
      · rename_i y hy
        simp only [Option.map_eq_some_iff] at h
        obtain ⟨ys, hys, rfl⟩ := h
        have hv := hs.evX hy
        simp only [VRel] at hv
        have hkx := hk (i, x) (by simp)
        have hfold : ∀ (cs : List Value) (p q : List Value), cs.length ≤ q.length → (cs.zipIdx.foldl (fun acc (c, j) => acc.setIfInBounds (p.length + j) c) (p ++ q).toArray) = (p ++ cs ++ q.drop cs.length).toArray := by
          intro cs
          have gen : ∀ (cs : List Value) (m : Nat) (p q : List Value), cs.length ≤ q.length → ((cs.zipIdx m).foldl (fun acc (c, j) => acc.setIfInBounds (p.length + j - m) c) (p ++ q).toArray) = (p ++ cs ++ q.drop cs.length).toArray := by
            intro cs
            induction cs with
            | nil => intro m p q _; simp
            | cons c cs ih =>
              intro m p q hq
              cases q with
              | nil => simp at hq
              | cons q0 q =>
                simp only [List.zipIdx_cons, List.foldl_cons]
                have e1 : ((p ++ q0 :: q).toArray.setIfInBounds (p.length + m - m) c) = ((p ++ [c]) ++ q).toArray := by
                  rw [Nat.add_sub_cancel]
                  apply Array.ext'
                  simp [List.set_append_right]
                rw [e1]
                have e2 := ih (m + 1) (p ++ [c]) q (by simpa using hq)
                have e3 : (fun (acc : Array Value) (x : Value × Nat) => acc.setIfInBounds ((p ++ [c]).length + x.2 - (m + 1)) x.1) = (fun (acc : Array Value) (x : Value × Nat) => acc.setIfInBounds (p.length + x.2 - m) x.1) := by
                  funext acc x
                  congr 1
                  simp
                  omega
                simp only [e3] at e2
                rw [e2]
                simp
          intro p q hq
          have := gen cs 0 p q hq
          simpa using this
        have hrl : k ≤ rest.length := by rw [hr, List.length_cons, Nat.succ_mul]; omega
        have hcl : (a.eval x).cells.toList.length = k := by rw [Array.length_toList]; exact hkx
        obtain ⟨vs, h1, h2, h3⟩ := fill_ok (pre := pre ++ (a.eval x).cells.toList) (rest := rest.drop k) hys hs (fun p hp => hk p (by simp [hp])) (by simp [hkx, hp, Nat.succ_mul]) (by rw [List.length_drop, hr, List.length_cons, Nat.succ_mul]; omega)
        refine ⟨(a.eval x).cells.toList ++ vs, ?_, ?_, by simp [hkx, h3, Nat.succ_mul, Nat.add_comm]⟩
        · simp only [List.map_cons, Instr.fill]
          rw [if_neg (by simp [hkx, hp]; omega)]
          have hz : (a.eval x).cells.zipIdx.foldl (fun cs (x : Value × Nat) => cs.setIfInBounds (i * k + x.2) x.1) (pre ++ rest).toArray = (pre ++ (a.eval x).cells.toList ++ rest.drop k).toArray := by
            have := hfold (a.eval x).cells.toList pre rest (by rw [hcl]; exact hrl)
            rw [hp, hcl] at this
            rw [← Array.foldl_toList, Array.toList_zipIdx]
            exact this
          rw [hz, h1]
          simp
        · simp only [DRelR]
          exact ⟨_, vs, rfl, hkx, hv, h2⟩
      · cases h
    · cases h

def szD (i : TI) : D → Bool
  | .agg cs => cs.length == i.size
  | _ => i.size == 1

theorem szD_ok {i : TI} {x : D} {v : Value} (h : szD i x = true) (hx : DRel w I x v) : v.cells.size = i.size := by
  rw [← Array.length_toList, hx.cells.length]
  cases x <;> simp_all [szD, D.cs]

theorem OpOk.lit (hT : TabOk P T) {o : Oper} {t e : TypeId} {i ei : TI} {len : Nat} {parts : Array (Nat × Operand)} {xs : List D} (ho : o.op = .buildSlice t len parts) (hi : T t = some i) (hk : i.kind = .slice e) (hei : T e = some ei)
    (hx : partsD s 0 parts.toList = some xs) (hlen : len = xs.length) (hsz : xs.all (szD ei) = true) (hsm : len * ei.size ≤ 16777216) (hm : len ≤ maxLen) (hok : okEl ei = true) (hp : s.pin ≤ s.S.length)
    (hset : setS { s with S := s.S ++ [.arr e ei.size xs] } o.dst (.sl s.S.length len) = some s') : OpOk P o s s' := fun w I L a hs => by
  have hI := (hT _ _ hi).kind
  rw [hk] at hI
  simp only [TKOk] at hI
  obtain ⟨z, hz, hzl, hzs⟩ := (hT _ _ hei).zeroValue (w := w)
  have hparts : ∀ {ps : List (Nat × Operand)} {n : Nat} {ys : List D}, partsD s n ps = some ys → ys.all (szD ei) = true → ps.length = ys.length ∧ ∀ p ∈ ps, (a.eval p.2).cells.size = ei.size := by
    intro ps
    induction ps with
    | nil => intro n ys h _; simp [partsD] at h; subst h; simp
    | cons p ps ih =>
      obtain ⟨i0, x0⟩ := p
      intro n ys h hall
      unfold partsD at h
      split at h
      · split at h
        · rename_i y hy
          simp only [Option.map_eq_some_iff] at h
          obtain ⟨zs, hzs, rfl⟩ := h
          simp only [List.all_cons, Bool.and_eq_true] at hall
          obtain ⟨e1, e2⟩ := ih hzs hall.2
          have hv := hs.evX hy
          simp only [VRel] at hv
          refine ⟨by simp [e1], fun p hp => ?_⟩
          rcases List.mem_cons.1 hp with rfl | hp
          · exact szD_ok hall.1 hv
          · exact e2 p hp
        · cases h
      · cases h
  obtain ⟨q1, q2⟩ := hparts hx hsz
  have hrest : ((Array.range (len * ei.size)).map (fun j => (if len * ei.size = 0 then #[] else z.cells)[j % (if len * ei.size = 0 then #[] else z.cells).size]!)).toList.length = parts.toList.length * ei.size := by
    rw [q1, ← hlen]; simp
  obtain ⟨vs, h1, h2, h3⟩ := fill_ok (pre := []) (rest := ((Array.range (len * ei.size)).map (fun j => (if len * ei.size = 0 then #[] else z.cells)[j % (if len * ei.size = 0 then #[] else z.cells).size]!)).toList) hx hs q2 (by simp) hrest
  simp only [List.nil_append, Array.toArray_toList] at h1
  have hll : vs.length = len * ei.size := by rw [h3, q1, hlen]
  obtain ⟨e1, e2, e3⟩ := newRow_ok hs hp (e := e) (n := len) h2 hlen.symm hm hll
  obtain ⟨h4, h5⟩ := put_step e1 e2 e3 hset
  refine ⟨_, _, I, _, _, ?_, .inl rfl, h4, h5⟩
  have hmap : (parts.map fun (i, x) => (i, a.eval x)).toList = parts.toList.map fun (i, x) => (i, a.eval x) := by simp
  have hsm' : ¬ (len * ei.size > 2 ^ 24) := by omega
  unfold execOp
  simp only [ho, Instr.buildSlice, Sem.run_bind, runU hI, Result.andThen_ok, (hT _ _ hei).sizeOf, if_neg hsm', hmap]
  by_cases h0 : len * ei.size = 0
  · simp only [h0, if_true] at h1 ⊢
    simp only [Sem.run_pure, Result.andThen_ok, Sem.run_bind]
    rw [h1]
    simp [newRow]
  · simp only [h0, if_false] at h1 ⊢
    simp only [Sem.run_pure, Result.andThen_ok, Sem.run_bind, hz]
    rw [h1]
    simp [newRow]

end
end Go.Proofs.YtjlamhilnkadcaaGreatDoor.Pay
