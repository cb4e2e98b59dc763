/- Struct literals, appends. No statement of the seed is proved here. -/
import Derived.Test.YtjlamhilnkadcaaGreatDoorPayH
import Derived.Lib.AppendStr
namespace Go.Proofs.YtjlamhilnkadcaaGreatDoor.Pay
open Go Go.RowKit
set_option linter.unusedVariables false
set_option linter.unusedSimpArgs false

section
variable {P : Program} {T : Nat → Option TI} {w w' : World} {I : Nat → Prop} {L : List Lay} {s s' : St} {a : Act}

/-- Parts laid into cells. -/
def fillV (pl : Nat → Option (Nat × Nat)) (s : St) : List FV → List (Nat × Operand) → Option (List FV)
  | cs, [] => some cs
  | cs, (i, x) :: r => (pl i).bind fun p => (evX s x).bind fun v =>
    if plainV v = true ∧ (fvCells v).length = p.2 ∧ p.1 + p.2 ≤ cs.length then fillV pl s (spl cs p.1 (fvCells v)) r else none

theorem foldl_set : ∀ (us : List Value) (m : Nat) (off : Nat) (vs : List Value), off + us.length ≤ vs.length →
    ((us.zipIdx m).foldl (fun acc (x : Value × Nat) => acc.setIfInBounds (off + x.2 - m) x.1) vs.toArray) = (spl vs off us).toArray
  | [], m, off, vs, h => by
    rw [spl_eq h]
    simp
  | u :: us, m, off, vs, h => by
    have h' : off + 1 + us.length ≤ (vs.set off u).length := by simp at h ⊢; omega
    have ih := foldl_set us (m + 1) (off + 1) (vs.set off u) h'
    simp only [List.zipIdx_cons, List.foldl_cons]
    have e1 : vs.toArray.setIfInBounds (off + m - m) u = (vs.set off u).toArray := by rw [Nat.add_sub_cancel]; simp
    have e3 : (fun (acc : Array Value) (x : Value × Nat) => acc.setIfInBounds (off + 1 + x.2 - (m + 1)) x.1) = (fun (acc : Array Value) (x : Value × Nat) => acc.setIfInBounds (off + x.2 - m) x.1) := by
      funext acc x
      congr 1
      omega
    rw [e1, ← e3, ih, spl_eq h', spl_eq h]
    congr 1
    have h2 : off < vs.length := by simp at h; omega
    rw [List.take_set, List.drop_set_of_lt (by omega)]
    rw [List.take_add_one, List.getElem?_eq_getElem h2]
    simp only [Option.toList_some, List.length_cons, List.append_assoc]
    rw [List.set_append_right _ _ (by rw [List.length_take]; omega)]
    simp [Nat.min_eq_left (Nat.le_of_lt h2), Nat.add_assoc, Nat.add_comm 1]

theorem fillV_ok {pl : Nat → Option (Nat × Nat)} : ∀ {ps : List (Nat × Operand)} {cs cs' : List FV} {vs : List Value}, fillV pl s cs ps = some cs' → SR w I L s a → VRelL w I L cs vs → Ones vs →
    ∃ vs' : List Value, Instr.fill pl vs.toArray (ps.map fun (i, x) => (i, a.eval x)) = some vs'.toArray ∧ VRelL w I L cs' vs' ∧ Ones vs'
  | [], cs, cs', vs, h, _, hr, ho => by simp [fillV] at h; subst h; exact ⟨vs, by simp [Instr.fill], hr, ho⟩
  | (i, x) :: ps, cs, cs', vs, h, hs, hr, ho => by
    simp only [fillV, Option.bind_eq_some_iff] at h
    obtain ⟨p, hp, v, hv, h⟩ := h
    split at h
    · rename_i hc
      obtain ⟨h1, h2, h3⟩ := hc
      obtain ⟨hcs, hones⟩ := fvCells_ok (hs.evX hv) (plainV_ok h1)
      have hlen : (a.eval x).cells.toList.length = p.2 := by rw [hcs.length, h2]
      have hle : p.1 + (a.eval x).cells.toList.length ≤ vs.length := by rw [hlen, hr.length]; exact h3
      obtain ⟨vs', e1, e2, e3⟩ := fillV_ok h hs (hr.spl hcs (by rw [h2]; exact h3)) (ho.spl hones hle)
      refine ⟨vs', ?_, e2, e3⟩
      simp only [List.map_cons, Instr.fill, hp]
      have hsz : (a.eval x).cells.size = p.2 := by rw [← Array.length_toList]; exact hlen
      have hn : ¬ (((a.eval x).cells.size ≠ p.2 || decide (p.1 + (a.eval x).cells.size > vs.toArray.size)) = true) := by
        simp [hsz]
        rw [hr.length]; exact h3
      rw [if_neg hn]
      have := foldl_set (a.eval x).cells.toList 0 p.1 vs hle
      simp only [Nat.sub_zero] at this
      rw [← Array.foldl_toList, Array.toList_zipIdx]
      exact (congrArg (fun c => Instr.fill pl c (ps.map fun (i, x) => (i, a.eval x))) this).trans e1
    · cases h

/-- Where a struct's fields lie. -/
def placesT (T : Nat → Option TI) : List (Nat × Nat) → Option (List (Nat × Nat))
  | [] => some []
  | (o, t) :: r => (T t).bind fun i => (placesT T r).map ((o, i.size) :: ·)

theorem placesT_ok (hT : TabOk P T) : ∀ (fs : List Field) {pl : List (Nat × Nat)}, placesT T (fs.map fun f => (f.offset, f.type)) = some pl → fs.mapM (fun f => (P.info? f.type).map fun i => (f.offset, i.size)) = some pl
  | [], pl, h => by simp [placesT] at h; subst h; rfl
  | f :: fs, pl, h => by
    simp only [List.map_cons, placesT, Option.bind_eq_some_iff, Option.map_eq_some_iff] at h
    obtain ⟨i, hi, q, hq, rfl⟩ := h
    obtain ⟨j, z, hj, e1, _⟩ := (hT _ _ hi).info
    simp [List.mapM_cons, hj, placesT_ok hT fs hq, e1]

def evBd (T : Nat → Option TI) (s : St) (t : TypeId) (parts : List (Nat × Operand)) : Option FV :=
  (T t).bind fun i => match i.kind with
  | .struct fs => (placesT T fs).bind fun pl => (fillV (pl[·]?) s (i.zero.map .d) parts).map mkV
  | .array _ e => (T e).bind fun ei => (fillV (fun j => some (j * ei.size, ei.size)) s (i.zero.map .d) parts).map mkV
  | _ => none

theorem OpOk.build (hT : TabOk P T) {o : Oper} {t : TypeId} {parts : Array (Nat × Operand)} {v : FV} (ho : o.op = .build t parts) (hv : evBd T s t parts.toList = some v) (hset : setS s o.dst v = some s') : OpOk P o s s' := fun w I L a hs => by
  unfold evBd at hv
  simp only [Option.bind_eq_some_iff] at hv
  obtain ⟨i, hi, hv⟩ := hv
  have hI := (hT _ _ hi).kind
  obtain ⟨j, z, hj, e1, e2, e3, e4, e5⟩ := (hT _ _ hi).info
  obtain ⟨h1, h2⟩ := ofLeaves_ok (w := w) (I := I) e4
  have hmap : (parts.map fun (i, x) => (i, a.eval x)).toList = parts.toList.map fun (i, x) => (i, a.eval x) := by simp
  have fin : ∀ vs : List Value, P.built t (parts.map fun (i, x) => (i, a.eval x)).toList = some vs.toArray → VRel w I L v (.agg vs.toArray) →
      ∃ r w' I' L' v, (execOp a.eval o).run P w = .ok r w' ∧ (r = .value v ∨ r = .skip ∧ v = undef) ∧ SR w' I' L' s' (a.put o.dst v) ∧ Step w I L s w' I' L' s' := by
    intro vs hb hx
    obtain ⟨h4, h5⟩ := put_step hs (Step.refl _ _ _ _) hx hset
    refine ⟨_, w, I, L, _, ?_, .inl rfl, h4, h5⟩
    unfold execOp
    simp only [ho, Sem.run_bind, run_build w t _ _ hb, Result.andThen_ok, Sem.run_pure]
  split at hv
  · rename_i fs hk
    rw [hk] at hI
    obtain ⟨d, hd, hfs⟩ := hI
    simp only [Option.bind_eq_some_iff, Option.map_eq_some_iff] at hv
    obtain ⟨pl, hpl, cs, hcs, rfl⟩ := hv
    obtain ⟨vs, hf, hr, ho'⟩ := fillV_ok hcs hs h1.toV h2
    have hpp : d.toList.mapM (fun f => (P.info? f.type).map fun i => (f.offset, i.size)) = some pl := placesT_ok hT _ (by rw [hfs]; exact hpl)
    refine fin vs ?_ (mkV_ok hr ho')
    simp only [Program.built, hj, hd, e3, hpp, hmap]
    simpa using hf
  · rename_i _ e hk
    rw [hk] at hI
    simp only [TKOk] at hI
    simp only [Option.bind_eq_some_iff, Option.map_eq_some_iff] at hv
    obtain ⟨ei, hei, cs, hcs, rfl⟩ := hv
    obtain ⟨vs, hf, hr, ho'⟩ := fillV_ok hcs hs h1.toV h2
    obtain ⟨j2, z2, hj2, e12, _⟩ := (hT _ _ hei).info
    refine fin vs ?_ (mkV_ok hr ho')
    simp only [Program.built, hj, hI, e3, hj2, e12, hmap]
    simpa using hf
  · cases hv

/-! ### Appends -/

/-- What is appended: elements of k cells each. -/
def srcV (s : St) (k : Nat) : FV → Option (List D)
  | .d .nil => some []
  | .d (.list k' xs) => if k' = k then some xs else none
  | .sl id m => match s.S[id]? with
    | some (.arr _ k' xs) => if k' = k ∧ m ≤ xs.length then some (xs.take m) else none
    | some (.frz k' xs) => if k' = k ∧ m ≤ xs.length then some (xs.take m) else none
    | _ => none
  | _ => none

theorem srcV_ok (hs : SR w I L s a) {k : Nat} {y : FV} {v : Value} {ys : List D} (hy : VRel w I L y v) (h : srcV s k y = some ys) :
    ∃ hd c vs, v = .slice hd ys.length c ∧ DRelR w I k ys vs ∧ (vs = [] ∨ ∃ b o, hd = some ⟨b, o, none⟩ ∧ CellsAt w b o vs) ∧ (hd = none → ys = []) := by
  unfold srcV at h
  split at h
  · cases h
    simp only [VRel, DRel] at hy
    exact ⟨none, 0, [], hy, by simp [DRelR], .inl rfl, fun _ => rfl⟩
  · rename_i k' xs
    split at h
    · rename_i hk; subst hk
      cases h
      simp only [VRel, DRel] at hy
      obtain ⟨hd, c, hv, _, hx⟩ := hy
      rcases hx with hx | ⟨b, o, vs, rfl, _, hc, hr⟩
      · subst hx; exact ⟨hd, c, [], hv, by simp [DRelR], .inl rfl, fun _ => rfl⟩
      · exact ⟨_, c, vs, hv, hr, .inr ⟨b, o, rfl, hc⟩, fun e => by cases e⟩
    · cases h
  · rename_i id m
    simp only [VRel] at hy
    obtain ⟨l, hd, c, hl, hh, hv⟩ := hy
    split at h
    · rename_i e k' xs hS
      split at h
      · rename_i hk
        obtain ⟨rfl, hm⟩ := hk
        cases h
        have hlen : (xs.take m).length = m := by rw [List.length_take]; omega
        rcases hs.obs _ _ _ hS hl with ⟨base, cp, vs, rfl, hown, hr⟩ | ⟨hd', rfl, rfl⟩
        · simp only [Lay.hdr, Option.some.injEq, Prod.mk.injEq] at hh
          obtain ⟨rfl, rfl⟩ := hh
          refine ⟨_, cp, vs.take (m * k'), by rw [hlen]; exact hv, hr.take m, ?_, ?_⟩
          · by_cases h0 : 0 < vs.length
            · obtain ⟨b, rfl, hc⟩ := ownsRow_cells hown h0
              exact .inr ⟨b, 0, rfl, cellsAt_take hc _⟩
            · left
              rw [List.eq_nil_of_length_eq_zero (show vs.length = 0 by omega)]; simp
          · intro hb
            rcases hown.2 with ⟨_, h0⟩ | ⟨g, cpp, cur, he, _⟩
            · exact List.eq_nil_of_length_eq_zero (by omega)
            · cases base with
              | none => simp [Lay.head] at he
              | some b => simp [Lay.head] at hb
        · simp only [List.length_nil, Nat.le_zero] at hm
          subst hm
          exact ⟨hd, c, [], by simpa using hv, by simp [DRelR], .inl rfl, fun _ => by simp⟩
      · cases h
    · rename_i k' xs hS
      split at h
      · rename_i hk
        obtain ⟨rfl, hm⟩ := hk
        cases h
        have hlen : (xs.take m).length = m := by rw [List.length_take]; omega
        obtain ⟨hd', cp, hh', hd1⟩ := hs.obs _ _ _ hS hl
        rw [hh] at hh'
        simp only [Option.some.injEq, Prod.mk.injEq] at hh'
        obtain ⟨rfl, rfl⟩ := hh'
        simp only [DRel] at hd1
        obtain ⟨base, c', he, _, hx⟩ := hd1
        simp at he
        obtain ⟨rfl, rfl⟩ := he
        rcases hx with hx | ⟨b, o, vs, rfl, _, hc, hr⟩
        · subst hx
          exact ⟨hd, c, [], by rw [hlen]; exact hv, by simp [DRelR], .inl rfl, fun _ => by simp⟩
        · exact ⟨_, c, vs.take (m * k'), by rw [hlen]; exact hv, hr.take m, .inr ⟨b, o, rfl, cellsAt_take hc _⟩, fun e => by cases e⟩
      · cases h
    · cases h
  · cases h

theorem DRelR.ones {k : Nat} : ∀ {xs : List D} {vs : List Value}, DRelR w I k xs vs → Ones vs
  | [], vs, h => by simp only [DRelR] at h; subst h; intro v hv; simp at hv
  | x :: xs, vs, h => by
    simp only [DRelR] at h
    obtain ⟨v, r, rfl, _, h1, h2⟩ := h
    intro u hu
    rcases List.mem_append.1 hu with hu | hu
    · exact h1.ones u hu
    · exact h2.ones u hu

/-- The type of what is appended does not count, if it is a slice. -/
theorem run_append_types {t u e e' ty : TypeId} (ht : P.underlying t = some (.slice e)) (hu : P.underlying u = some (.slice e')) (hd hd2 : Option Addr) (n c m c2 : Nat) :
    (Builtin.append_ #[t, u] ty #[.slice hd n c, .slice hd2 m c2]).run P w = (Builtin.append_ #[t, t] ty #[.slice hd n c, .slice hd2 m c2]).run P w := by
  unfold Builtin.append_
  simp [run_underlying ht, run_underlying hu]

/-- Nothing is appended. -/
theorem run_append_none {t e ty : TypeId} {j : TypeInfo} (ht : P.underlying t = some (.slice e)) (hj : P.info? e = some j) {hd hd2 : Option Addr} {n c c2 : Nat} (hn : n ≤ c) :
    (Builtin.append_ #[t, t] ty #[.slice hd n c, .slice hd2 0 c2]).run P w = .ok (.slice hd n c) w := by
  cases hd2 <;> cases hd <;> simp [Builtin.append_, run_underlying ht, sizeOf, typeInfo, hj, Builtin.lenOf, Builtin.firstCells, loadCells, loadCellsFrom, storeCells, hn]

theorem ownsRow_take {e : TypeId} {k n m cap : Nat} {hd : Option Addr} {vs : List Value} (h : w.ownsRow 0 e k (.slice hd n cap) n vs) (hm : m ≤ n) (hn : n ≠ 0) : w.ownsRow 0 e k (.slice hd m cap) m (vs.take (m * k)) := by
  obtain ⟨h1, h2⟩ := h
  have hmk : m * k ≤ n * k := Nat.mul_le_mul_right k hm
  rcases h2 with ⟨_, h0⟩ | ⟨g, cp, cur, he, hb, hg, hle, hmx, hc, ht⟩
  · exact absurd h0 hn
  · cases he
    refine ⟨by rw [List.length_take]; omega, .inr ⟨g, cap, cur, rfl, hb, hg, by omega, hmx, hc, ?_⟩⟩
    rw [← ht, List.take_take, Nat.min_eq_left hmk]

/-- What an append of x does: n elements, of the cells us. -/
structure Src (P : Program) (w : World) (t u ty e : TypeId) (j : TypeInfo) (z x : Value) (n : Nat) (us : List Value) : Prop where
  zero : n = 0 → ∀ (hd : Option Addr) (m c : Nat), m ≤ c → (Builtin.append_ #[t, u] ty #[.slice hd m c, x]).run P w = .ok (.slice hd m c) w
  nil : 0 < n → (n : Int) ≤ 9223372036854775807 → n * j.bytes ≤ 281474976710656 → (Builtin.append_ #[t, u] ty #[.slice none 0 0, x]).run P w =
    .ok (.slice (some ⟨w.heap.size, 0, none⟩) n (grownCap w n 0 e)) (w.drew.alloc (.cells (us.toArray ++ Builtin.zeroCells z.cells (grownCap w n 0 e - n)) e))
  room : 0 < n → ∀ (g m c : Nat) (cur : Array Value), w.heap[g]? = some (.cells cur e (0, 0)) → m + n ≤ c → m * j.size + us.length ≤ cur.size →
    (Builtin.append_ #[t, u] ty #[.slice (some ⟨g, 0, none⟩) m c, x]).run P w = .ok (.slice (some ⟨g, 0, none⟩) (m + n) c) (w.setRow g (cur.toList.take (m * j.size) ++ us ++ cur.toList.drop (m * j.size + us.length)).toArray)
  grow : 0 < n → ∀ (b : Addr) (m c : Nat) (olds : List Value), olds.length = m * j.size → (∀ q v, olds[q]? = some v → w.cell? (b.add q) = some v) → c < m + n → ((m + n : Nat) : Int) ≤ 9223372036854775807 →
    Builtin.nextslicecap (m + n) c * j.bytes ≤ 281474976710656 → (Builtin.append_ #[t, u] ty #[.slice (some b) m c, x]).run P w =
      .ok (.slice (some ⟨w.heap.size, 0, none⟩) (m + n) (grownCap w (m + n) c e)) (w.drew.alloc (.cells (olds.toArray ++ us.toArray ++ Builtin.zeroCells z.cells (grownCap w (m + n) c e - (m + n))) e))

theorem Src.slice {t u e e' ty : TypeId} {j : TypeInfo} {z : Value} (ht : P.underlying t = some (.slice e)) (hu : P.underlying u = some (.slice e')) (hj : P.info? e = some j) (hz : j.zero = some z) {ys : List D} {us : List Value} {hd2 : Option Addr} {c2 : Nat}
    (hus : DRelR w I j.size ys us) (hcs : us = [] ∨ ∃ b o, hd2 = some ⟨b, o, none⟩ ∧ CellsAt w b o us) (hdn : hd2 = none → ys = []) : Src P w t u ty e j z (.slice hd2 ys.length c2) ys.length us := by
  have key : 0 < ys.length → ∃ ad, hd2 = some ad ∧ ∀ q v, us[q]? = some v → w.cell? (ad.add q) = some v := fun h => by
    cases hd2 with
    | none => rw [hdn rfl] at h; simp at h
    | some ad =>
      refine ⟨ad, rfl, fun q v hv => ?_⟩
      rcases hcs with rfl | ⟨b, o, he, hc⟩
      · simp at hv
      · cases he
        simpa [Addr.add_lit] using hc q v hv
  refine ⟨fun h0 hd m c hm => ?_, fun h0 h1 h2 => ?_, fun h0 g m c cur hg hr hf => ?_, fun h0 b m c olds hlo hc hg h1 h2 => ?_⟩
  · rw [run_append_types ht hu, h0]
    exact run_append_none ht hj hm
  all_goals
    obtain ⟨ad, rfl, hn⟩ := key h0
    rw [run_append_types ht hu]
  · exact run_append_nil (P := P) w t ty e j z ht hj hz ad ys.length c2 us hus.length hn h0 h1 h2
  · exact run_append_room (P := P) w t ty e j ht hj g m c cur hg ad ys.length c2 us hus.length hn hus.ones hr hf
  · exact run_append_grow (P := P) w t ty e j z ht hj hz b m c olds hlo hc ad ys.length c2 us hus.length hn hg h1 h2

theorem Src.str {t u e ty : TypeId} {j : TypeInfo} {z : Value} (ht : P.underlying t = some (.slice e)) (hu : P.underlying u = some .string) (hj : P.info? e = some j) (hz : j.zero = some z) (hs : j.size = 1) (l : List UInt8) :
    Src P w t u ty e j z (.string ⟨l.toArray⟩) l.length (l.map fun b => Value.int .u8 b.toNat) := by
  have hsz : (⟨l.toArray⟩ : ByteArray).size = l.length := by simp [ByteArray.size]
  have hc : Lib.strCells ⟨l.toArray⟩ = l.map fun b => Value.int .u8 b.toNat := by simp [Lib.strCells]
  refine ⟨fun h0 hd m c hm => ?_, fun h0 h1 h2 => ?_, fun h0 g m c cur hg hr hf => ?_, fun h0 b m c olds hlo hcs hg h1 h2 => ?_⟩
  · have : l = [] := List.eq_nil_of_length_eq_zero h0
    subst this
    cases hd <;> simp [Builtin.append_, run_underlying ht, run_underlying hu, sizeOf, typeInfo, hj, Builtin.lenOf, Builtin.firstCells, storeCells, hm, ByteArray.size]
  · have h := run_append_nil_string (P := P) w t u ty e j z ht hu hj hz ⟨l.toArray⟩ (by rw [hsz]; exact h0) (by rw [hsz]; exact h1) (by rw [hsz]; exact h2)
    rw [hsz] at h
    simpa using h
  · have h := Lib.run_append_room_string (P := P) w t u ty e j ht hu hj hs g m c cur hg ⟨l.toArray⟩ (by rw [hsz]; exact hr) (by rw [hsz]; simpa [hs] using hf)
    rw [hsz, hc] at h
    simpa [hs] using h
  · have h := Lib.run_append_grow_string (P := P) w t u ty e j z ht hu hj hz b m c olds hlo hcs ⟨l.toArray⟩ (by rw [hsz]; exact hg) (by rw [hsz]; exact h1) (by rw [hsz]; exact h2)
    rw [hsz, hc] at h
    exact h

/-- An append to a row of the call's own, as it stands in a world. -/
theorem append_run {t u e ty : TypeId} {j : TypeInfo} {z x : Value} {k : Nat} (hsz : j.size = k) (hzs : z.cells.size = k) (hk : 0 < k)
    {l : Lay} {xs ys : List D} {hd : Option Addr} {cap : Nat} {us : List Value} (hx : Src P w t u ty e j z x ys.length us) (hl : l.hdr = some (hd, cap)) (ho : ORel w I L (.arr e k xs) l) (hus : DRelR w I k ys us)
    (h63 : xs.length + ys.length ≤ maxLen) (hby : (xs.length + ys.length) * j.bytes ≤ 140737488355328) (hI : ∀ b ∈ own (.arr e k xs) l, ¬ I b) (hIm : ∀ b, I b → b < w.heap.size) :
    ∃ hd' cap' w' l', (Builtin.append_ #[t, u] ty #[.slice hd xs.length cap, x]).run P w = .ok (.slice hd' (xs.length + ys.length) cap') w' ∧ l'.hdr = some (hd', cap') ∧ ORel w' I L (.arr e k (xs ++ ys)) l' ∧
      w'.os = w.os ∧ w'.tape = w.tape ∧ w'.output = w.output ∧ w.heap.size ≤ w'.heap.size ∧ (∀ b, b < w.heap.size → b ∉ own (.arr e k xs) l → w'.heap[b]? = w.heap[b]?) ∧
      (∀ b ∈ own (.arr e k (xs ++ ys)) l', (b ∈ own (.arr e k xs) l ∨ w.heap.size ≤ b) ∧ b < w'.heap.size) := by
  by_cases hy0 : ys = []
  · subst hy0
    have hcap : xs.length ≤ cap := by
      rcases ho with ⟨base, cp, vs, rfl, hown, hr⟩ | ⟨hd', rfl, rfl⟩
      · simp only [Lay.hdr, Option.some.injEq, Prod.mk.injEq] at hl
        obtain ⟨rfl, rfl⟩ := hl
        rcases hown.2 with ⟨h1, h2⟩ | ⟨g, cp, cur, he, _, _, hle, _⟩
        · omega
        · simp only [Value.slice.injEq] at he
          obtain ⟨_, _, rfl⟩ := he
          exact hle
      · simp
    refine ⟨hd, cap, w, l, by simpa using hx.zero (by simp) hd xs.length cap hcap, hl, by simpa using ho, rfl, rfl, rfl, Nat.le_refl _, fun _ _ _ => rfl, fun b hb => ?_⟩
    have hb' : b ∈ own (.arr e k xs) l := by simpa using hb
    refine ⟨.inl hb', ?_⟩
    rcases ho with ⟨base, cp, vs, rfl, hown, hr⟩ | ⟨hd', rfl, rfl⟩
    · cases base with
      | none => simp [own] at hb'
      | some b0 =>
        simp [own] at hb'
        subst hb'
        exact (hown.lt b (by simp [Value.ownBlock, Lay.head])).2
    · simp [own] at hb'
  · have hul : us.length = ys.length * k := hus.length
    subst hsz
    have hy1 : 0 < ys.length := by
      cases ys with
      | nil => exact absurd rfl hy0
      | cons y ys => simp
    have h63' : ((xs.length + ys.length : Nat) : Int) ≤ 9223372036854775807 := by simp only [maxLen] at h63; omega
    -- a new row
    have grown : ∀ (old : Nat) (vs : List Value), old < xs.length + ys.length → DRelR w I j.size xs vs →
        ∀ r : Result Value, r = .ok (.slice (some ⟨w.heap.size, 0, none⟩) (xs.length + ys.length) (grownCap w (xs.length + ys.length) old e)) (w.drew.alloc (.cells (vs.toArray ++ us.toArray ++ Builtin.zeroCells z.cells (grownCap w (xs.length + ys.length) old e - (xs.length + ys.length))) e)) →
        ∃ hd' cap' w' l', r = .ok (.slice hd' (xs.length + ys.length) cap') w' ∧ l'.hdr = some (hd', cap') ∧ ORel w' I L (.arr e j.size (xs ++ ys)) l' ∧
          w'.os = w.os ∧ w'.tape = w.tape ∧ w'.output = w.output ∧ w.heap.size ≤ w'.heap.size ∧ (∀ b, b < w.heap.size → b ∉ own (.arr e j.size xs) l → w'.heap[b]? = w.heap[b]?) ∧
          (∀ b ∈ own (.arr e j.size (xs ++ ys)) l', (b ∈ own (.arr e j.size xs) l ∨ w.heap.size ≤ b) ∧ b < w'.heap.size) := by
      intro old vs hold hr r hrun
      have hvl : vs.length = xs.length * j.size := hr.length
      generalize hcap : grownCap w (xs.length + ys.length) old e = cp at hrun
      have hge : xs.length + ys.length ≤ cp := hcap ▸ grownCap_ge w (xs.length + ys.length) old e
      have hcm : cp ≤ maxLen := hcap ▸ grownCap_le_maxLen w (xs.length + ys.length) old e h63
      generalize hw' : w.drew.alloc (.cells (vs.toArray ++ us.toArray ++ Builtin.zeroCells z.cells (cp - (xs.length + ys.length))) e) = w' at hrun
      have hk1 : ∀ b, b < w.heap.size → w'.heap[b]? = w.heap[b]? := by
        intro b hb
        rw [← hw']
        exact heap_alloc_old w.drew _ (by simpa using hb)
      have hs1 : w'.heap.size = w.heap.size + 1 := by rw [← hw']; simp
      have hII : ∀ b, I b → w'.heap[b]? = w.heap[b]? := fun b hb => hk1 b (hIm b hb)
      have hnew : w'.heap[w.heap.size]? = some (.cells (vs.toArray ++ us.toArray ++ Builtin.zeroCells z.cells (cp - (xs.length + ys.length))) e (0, 0)) := by
        rw [← hw']
        exact heap_alloc_new w.drew _
      refine ⟨_, cp, w', .a (some w.heap.size) cp, hrun, rfl, .inl ⟨some w.heap.size, cp, vs ++ us, rfl, ⟨?_, .inr ⟨w.heap.size, cp, _, ?_, Nat.zero_le _, hnew, ?_, hcm, ?_, ?_⟩⟩, DRelR.mono hII (fun _ h => h) _ _ _ (hr.append hus)⟩,
        by rw [← hw']; rfl, by rw [← hw']; rfl, by rw [← hw']; rfl, by omega, fun b hb _ => hk1 b hb, fun b hb => ?_⟩
      · rw [List.length_append, List.length_append, hvl, hul, Nat.add_mul]
      · simp [Lay.head]
      · simpa using hge
      · simp only [Array.size_append, List.size_toArray, size_zeroCells, hzs, hvl, hul, ← Nat.add_mul]
        congr 1
        omega
      · simp only [Array.toList_append, List.length_append]
        rw [show (xs.length + ys.length) * j.size = (vs ++ us).length from by rw [List.length_append, hvl, hul, Nat.add_mul]]
        exact List.take_left
      · simp [own] at hb
        subst hb
        exact ⟨.inr (Nat.le_refl _), by omega⟩
    rcases ho with ⟨base, cp, vs, rfl, hown, hr⟩ | ⟨hd', rfl, rfl⟩
    · simp only [Lay.hdr, Option.some.injEq, Prod.mk.injEq] at hl
      obtain ⟨rfl, rfl⟩ := hl
      rcases hown.2 with ⟨h1, h2⟩ | ⟨g, cpp, cur, he, _, hg, hle, hmx, hcs2, htake⟩
      · cases base with
        | some b => simp [Lay.head] at h1
        | none =>
          have hx0 : xs = [] := List.eq_nil_of_length_eq_zero h2
          subst hx0
          simp only [DRelR] at hr
          subst hr
          simp only [Lay.head, Option.map_none, List.length_nil, Value.slice.injEq, true_and] at h1
          subst h1
          refine grown 0 [] (by simpa using hy1) (by simp [DRelR]) _ ?_
          have := hx.nil hy1 (by simpa using h63') (by have hb := hby; simp only [List.length_nil, Nat.zero_add] at hb; omega)
          simpa [Lay.head] using this
      · cases base with
        | none => simp [Lay.head] at he
        | some b =>
          simp only [Lay.head, Option.map_some, Value.slice.injEq, Option.some.injEq, Addr.mk.injEq, and_true, true_and] at he
          obtain ⟨rfl, rfl⟩ := he
          by_cases hroom : xs.length + ys.length ≤ cp
          · have hvl : vs.length = xs.length * j.size := hr.length
            have hfit : xs.length * j.size + us.length ≤ cur.size := by rw [hul, hcs2, ← Nat.add_mul]; exact Nat.mul_le_mul_right _ hroom
            have hrun := hx.room hy1 b xs.length cp cur hg hroom hfit
            generalize hw' : w.setRow b (cur.toList.take (xs.length * j.size) ++ us ++ cur.toList.drop (xs.length * j.size + us.length)).toArray = w' at hrun
            have hkeep : ∀ q, q < w.heap.size → q ∉ own (.arr e j.size xs) (.a (some b) cp) → w'.heap[q]? = w.heap[q]? := by
              intro q _ hq
              rw [← hw']
              exact setRow_other w b q _ (by simpa [own] using hq)
            have hII : ∀ q, I q → w'.heap[q]? = w.heap[q]? := fun q hq => hkeep q (hIm q hq) fun h => hI q h hq
            have hs1 : w'.heap.size = w.heap.size := by rw [← hw']; simp
            have hnew : w'.heap[b]? = some (.cells (cur.toList.take (xs.length * j.size) ++ us ++ cur.toList.drop (xs.length * j.size + us.length)).toArray e (0, 0)) := by
              rw [← hw']
              exact setRow_heap w b _ _ e (0, 0) hg
            refine ⟨_, cp, w', .a (some b) cp, by simpa [Lay.head] using hrun, rfl, .inl ⟨some b, cp, vs ++ us, rfl, ⟨?_, .inr ⟨b, cp, _, ?_, Nat.zero_le _, hnew, ?_, hmx, ?_, ?_⟩⟩, DRelR.mono hII (fun _ h => h) _ _ _ (hr.append hus)⟩,
              by rw [← hw']; rfl, by rw [← hw']; rfl, by rw [← hw']; rfl, by omega, hkeep, fun q hq => ?_⟩
            · rw [List.length_append, List.length_append, hvl, hul, Nat.add_mul]
            · simp [Lay.head]
            · simpa using hroom
            · simp only [List.size_toArray, List.length_append, List.length_take, List.length_drop, Array.length_toList]
              omega
            · rw [htake]
              simp only [List.length_append]
              rw [show (xs.length + ys.length) * j.size = (vs ++ us).length from by rw [List.length_append, hvl, hul, Nat.add_mul]]
              exact List.take_left
            · simp [own] at hq
              subst hq
              exact ⟨.inl (by simp [own]), by rw [hs1]; exact (Array.getElem?_eq_some_iff.1 hg).1⟩
          · have holds : ∀ q v, vs[q]? = some v → w.cell? ((⟨b, 0, none⟩ : Addr).add q) = some v := fun q v hv => by
              have hown2 : w.ownsRow 0 e j.size (.slice (some ⟨b, 0, none⟩) xs.length cp) xs.length vs := by simpa [Lay.head] using hown
              exact hown2.cells (g := b) rfl q v hv
            refine grown cp vs (by omega) hr _ ?_
            have := hx.grow hy1 ⟨b, 0, none⟩ xs.length cp vs hr.length holds (by omega) h63' (growslice_fits (by omega) hby)
            simpa [Lay.head] using this
    · simp only [Lay.hdr, Option.some.injEq, Prod.mk.injEq] at hl
      obtain ⟨rfl, rfl⟩ := hl
      refine grown 0 [] (by simpa using hy1) (by simp [DRelR]) _ ?_
      cases hd' with
      | none =>
        have := hx.nil hy1 (by simpa using h63') (by have hb := hby; simp only [List.length_nil, Nat.zero_add] at hb; omega)
        simpa using this
      | some a0 =>
        have := hx.grow hy1 a0 0 0 [] (by simp) (fun q v hv => by simp at hv) (by omega) (by simpa using h63') (growslice_fits (by omega) (by simpa using hby))
        simpa using this

end
end Go.Proofs.YtjlamhilnkadcaaGreatDoor.Pay
