/- The append's rule; calls; what a state may be taken for. No statement of the seed is proved here. -/
import Derived.Test.YtjlamhilnkadcaaGreatDoorPayI
import Derived.Lib.AppendZerosOnto
namespace Go.Proofs.YtjlamhilnkadcaaGreatDoor.Pay
open Go Go.RowKit
set_option linter.unusedVariables false
set_option linter.unusedSimpArgs false

/-! ### Objects by themselves -/

structure OR (w : World) (I : Nat → Prop) (L : List Lay) (S : List Ob) : Prop where
  len : L.length = S.length
  obs : ∀ (i : Nat) (o : Ob) (l : Lay), S[i]? = some o → L[i]? = some l → ORel w I L o l
  nodup : (owns S L).Nodup
  sep : ∀ b ∈ owns S L, ¬ I b ∧ b < w.heap.size
  imm : Imm w I

theorem owns_of_mem : ∀ {S : List Ob} {L : List Lay} {b : Nat}, b ∈ owns S L → ∃ (i : Nat) (o : Ob) (l : Lay), S[i]? = some o ∧ L[i]? = some l ∧ b ∈ own o l
  | [], L, b, h => by simp [owns] at h
  | x :: S, [], b, h => by simp [owns] at h
  | x :: S, y :: L, b, h => by
    simp only [owns, List.mem_append] at h
    rcases h with h | h
    · exact ⟨0, x, y, rfl, rfl, h⟩
    · obtain ⟨i, o, l, h1, h2, h3⟩ := owns_of_mem h
      exact ⟨i + 1, o, l, by simpa using h1, by simpa using h2, h3⟩

theorem own_nodup (o : Ob) (l : Lay) : (own o l).Nodup := by
  unfold own
  split <;> simp

theorem own_arr (e k : Nat) (xs ys : List D) (l : Lay) : own (.arr e k xs) l = own (.arr e k ys) l := by
  cases l with
  | a base cap => cases base <;> rfl
  | _ => rfl

theorem owns_nodup : ∀ {S : List Ob} {L : List Lay}, (∀ (i j : Nat) (o o' : Ob) (l l' : Lay), i ≠ j → S[i]? = some o → L[i]? = some l → S[j]? = some o' → L[j]? = some l' → ∀ b ∈ own o l, b ∉ own o' l') → (owns S L).Nodup
  | [], L, _ => by simp [owns]
  | x :: S, [], _ => by simp [owns]
  | x :: S, y :: L, h => by
    simp only [owns, List.nodup_append]
    refine ⟨own_nodup x y, owns_nodup fun i j o o' l l' hij h1 h2 h3 h4 => h (i + 1) (j + 1) o o' l l' (by omega) (by simpa using h1) (by simpa using h2) (by simpa using h3) (by simpa using h4), fun b hb c hc e => ?_⟩
    subst e
    obtain ⟨i, o, l, h1, h2, h3⟩ := owns_of_mem hc
    exact h 0 (i + 1) x o y l (by omega) rfl rfl (by simpa using h1) (by simpa using h2) b hb h3

section
variable {P : Program} {T : Nat → Option TI} {w w' : World} {I I' : Nat → Prop} {L L' : List Lay} {s s' : St} {a : Act} {all : Array Oper} {o : Oper} {rest : List Oper} {Q : Exit → St → Prop}

theorem SR.or (hs : SR w I L s a) : OR w I L s.S := ⟨hs.len, hs.obs, hs.nodup, hs.sep, hs.imm⟩

/-- One object is given up, one is new; what neither owns is as it was. -/
theorem SR.repl (hs : SR w I L s a) {id : Nat} {o0 o1 : Ob} {l0 l1 : Lay} (h1 : s.S[id]? = some o0) (h2 : L[id]? = some l0)
    (hw : ∀ b, b < w.heap.size → b ∉ own o0 l0 → w'.heap[b]? = w.heap[b]?) (hsz : w.heap.size ≤ w'.heap.size) (hr : ORel w' I L o1 l1)
    (hown : ∀ b ∈ own o1 l1, (b ∈ own o0 l0 ∨ w.heap.size ≤ b) ∧ b < w'.heap.size) : SR w' I (L ++ [l1]) { s with S := s.S.set id .gone ++ [o1] } a := by
  have hI : ∀ b, I b → w'.heap[b]? = w.heap[b]? := fun b hb => hw b (hs.imm b hb) fun hb' => (hs.sep b (owns_mem h1 h2 b hb')).1 hb
  have hlen : (s.S.set id .gone).length = L.length := by simp [hs.len]
  obtain ⟨d1, d2⟩ := owns_drop (o' := .gone) h1 h2 rfl hs.nodup
  refine ⟨fun t x hx => VRel.mono hI (fun _ h => h) (lay_append L l1) _ _ (hs.env t x hx), hs.nt, by simp [hs.len], ?_, ?_, ?_, hs.imm.mono hI hsz, hs.defers⟩
  · intro j oj lj e1 e2
    have e1' : (s.S.set id .gone ++ [o1])[j]? = some oj := e1
    by_cases hj : j < s.S.length
    · rw [List.getElem?_append_left (by simpa using hj)] at e1'
      rw [List.getElem?_append_left (by rw [hs.len]; exact hj)] at e2
      by_cases hij : id = j
      · subst hij
        rw [List.getElem?_set_self hj] at e1'
        cases e1'
        trivial
      · rw [List.getElem?_set_ne hij] at e1'
        exact ORel.mono hI (fun _ h => h) (lay_append L l1) (fun b hb => hw b (hs.sep b (owns_mem e1' e2 b hb)).2 (owns_apart hs.nodup e1' e2 h1 h2 (Ne.symm hij) b hb)) (hs.obs j oj lj e1' e2)
    · rw [List.getElem?_append_right (by simp; omega)] at e1'
      rw [List.getElem?_append_right (by rw [hs.len]; omega), hs.len] at e2
      have hz : j - s.S.length = 0 := by have := (List.getElem?_eq_some_iff.1 e1').1; simp at this; omega
      simp only [List.length_set, hz] at e1' e2
      simp at e1' e2
      subst e1'; subst e2
      exact ORel.mono (fun _ _ => rfl) (fun _ h => h) (lay_append L l1) (fun _ _ => rfl) hr
  · show (owns (s.S.set id .gone ++ [o1]) (L ++ [l1])).Nodup
    rw [owns_append _ _ _ _ hlen, List.nodup_append]
    refine ⟨d1, own_nodup _ _, fun b hb c hc e => ?_⟩
    subst e
    rcases (hown b hc).1 with h | h
    · exact (d2 b hb).2 h
    · have := (hs.sep b (d2 b hb).1).2; omega
  · intro b hb
    have hb' : b ∈ owns (s.S.set id .gone ++ [o1]) (L ++ [l1]) := hb
    rw [owns_append _ _ _ _ hlen] at hb'
    rcases List.mem_append.1 hb' with hb' | hb'
    · exact ⟨(hs.sep b (d2 b hb').1).1, Nat.lt_of_lt_of_le (hs.sep b (d2 b hb').1).2 hsz⟩
    · refine ⟨fun hi => ?_, (hown b hb').2⟩
      rcases (hown b hb').1 with h | h
      · exact (hs.sep b (owns_mem h1 h2 b h)).1 hi
      · have := hs.imm b hi; omega

theorem Step.repl (hs : SR w I L s a) (hp : s.pin ≤ s.S.length) {id : Nat} {o0 o1 : Ob} {l0 l1 : Lay} (h1 : s.S[id]? = some o0) (h2 : L[id]? = some l0)
    (hw : ∀ b, b < w.heap.size → b ∉ own o0 l0 → w'.heap[b]? = w.heap[b]?) (hsz : w.heap.size ≤ w'.heap.size) (e1 : w'.os = w.os) (e2 : w'.tape = w.tape) (e3 : w'.output = w.output)
    (hown : ∀ b ∈ own o1 l1, (b ∈ own o0 l0 ∨ w.heap.size ≤ b) ∧ b < w'.heap.size) : Step w I L s w' I (L ++ [l1]) { s with S := s.S.set id .gone ++ [o1] } where
  evo := ⟨e1, e2, e3, hsz, fun b hb hn => hw b hb (fun hb' => hn (owns_mem h1 h2 b hb')), fun _ h => h, fun _ h => .inl h, fun b hb => by
    have hlen : (s.S.set id .gone).length = L.length := by simp [hs.len]
    obtain ⟨d1, d2⟩ := owns_drop (o' := .gone) h1 h2 rfl hs.nodup
    have hb' : b ∈ owns (s.S.set id .gone ++ [o1]) (L ++ [l1]) := hb
    rw [owns_append _ _ _ _ hlen] at hb'
    rcases List.mem_append.1 hb' with hb' | hb'
    · exact .inl (d2 b hb').1
    · rcases (hown b hb').1 with h | h
      · exact .inl (owns_mem h1 h2 b h)
      · exact .inr h⟩
  pin := rfl
  lay := fun i hi => by rw [List.getElem?_append_left (by rw [hs.len]; omega)]

/-- What is appended, by its type. -/
def srcT (s : St) (ei : TI) : TK → FV → Option (List D)
  | .slice _, y => srcV s ei.size y
  | .str, .d (.str l) => (match ei.kind with
    | .int .u8 => if ei.size = 1 then some (l.map fun b => .int .u8 b.toNat) else none
    | _ => none)
  | _, _ => none

def evAp (T : Nat → Option TI) (s : St) (t u : TypeId) (x y : FV) : Option (List Ob × Nat) :=
  (T t).bind fun i => (T u).bind fun j => match i.kind, j.kind with
  | .slice e, .int _ => (T e).bind fun ei => (match x, y with
    | .sc id n c, .d (.int _ z) => (match s.S[id]? with
      | some (.arr e' k xs) => if e' = e ∧ k = ei.size ∧ n ≤ xs.length ∧ 0 < k ∧ 0 < z ∧ c < n + z.toNat ∧ n + z.toNat ≤ 8589934592 ∧ ei.bytes ≤ 16384 ∧ okEl ei = true then some (s.S ++ [.arr e k (xs.take n ++ List.replicate z.toNat ei.zeroD)], n + z.toNat) else none
      | _ => none)
    | _, _ => none)
  | .slice e, jk => (T e).bind fun ei => (srcT s ei jk y).bind fun ys => (match x with
    | .sl id n => (match s.S[id]? with
      | some (.arr e' k xs) => if e' = e ∧ k = ei.size ∧ n ≤ xs.length ∧ 0 < k ∧ n + ys.length ≤ 8589934592 ∧ ei.bytes ≤ 16384 then some (s.S.set id .gone ++ [.arr e k (xs.take n ++ ys)], n + ys.length) else none
      | _ => none)
    | .d .nil => if 0 < ei.size ∧ ys.length ≤ 8589934592 ∧ ei.bytes ≤ 16384 then some (s.S ++ [.arr e ei.size ys], ys.length) else none
    | _ => none)
  | _, _ => none

theorem strD_ok : ∀ l : List UInt8, DRelR w I 1 (l.map fun b => D.int .u8 b.toNat) (l.map fun b => Value.int .u8 b.toNat)
  | [] => by simp [DRelR]
  | b :: l => by
    simp only [List.map_cons, DRelR]
    exact ⟨_, _, rfl, rfl, rfl, strD_ok l⟩

theorem srcT_ok (hs : SR w I L s a) {t u e ty : TypeId} {j : TypeInfo} {z : Value} {ei : TI} {jk : TK} (ht : P.underlying t = some (.slice e)) (hu : TKOk P u jk) (hj : P.info? e = some j) (hz : j.zero = some z) (hk : j.size = ei.size)
    {y : FV} {v : Value} {ys : List D} (hy : VRel w I L y v) (h : srcT s ei jk y = some ys) : ∃ us, DRelR w I ei.size ys us ∧ Src P w t u ty e j z v ys.length us := by
  unfold srcT at h
  split at h
  · obtain ⟨hd2, c2, us, hvy, hus, hcs, hdn⟩ := srcV_ok hs hy h
    subst hvy
    exact ⟨us, hus, Src.slice ht hu hj hz (by rw [hk]; exact hus) hcs hdn⟩
  · split at h
    · split at h
      · rename_i h1
        cases h
        simp only [VRel, DRel] at hy
        subst hy
        rw [h1]
        refine ⟨_, strD_ok _, ?_⟩
        rw [List.length_map]
        exact Src.str ht hu hj hz (hk.trans h1) _
      · cases h
    · cases h
  · cases h

theorem small_bytes {n b : Nat} (h1 : n ≤ 8589934592) (h2 : b ≤ 16384) : n * b ≤ 140737488355328 ∧ n ≤ maxLen := by
  refine ⟨?_, by simp only [maxLen]; omega⟩
  calc n * b ≤ 8589934592 * 16384 := Nat.mul_le_mul h1 h2
    _ = 140737488355328 := by decide

/-- Zeros are appended beyond the room: a new row; the old one is left. -/
theorem zeros_run (hT : TabOk P T) (hs : SR w I L s a) (hp : s.pin ≤ s.S.length) {t u e ty : TypeId} {ku kz : IntKind} {ei : TI} (ht : P.underlying t = some (.slice e)) (hu : P.underlying u = some (.int ku)) (hei : T e = some ei) (hok : okEl ei = true)
    {id n c k : Nat} {z : Int} {xs : List D} {l : Lay} {hd : Option Addr} (hS : s.S[id]? = some (.arr e k xs)) (hl : L[id]? = some l) (hh : l.hdr = some (hd, c)) (hk : k = ei.size) (hn : n ≤ xs.length) (hk0 : 0 < k) (hz : 0 < z)
    (hc : c < n + z.toNat) (hsm : n + z.toNat ≤ 8589934592) (hby : ei.bytes ≤ 16384) :
    ∃ v w' L', (Builtin.append_ #[t, u] ty #[.slice hd n c, .int kz z]).run P w = .ok v w' ∧ SR w' I L' { s with S := s.S ++ [.arr e k (xs.take n ++ List.replicate z.toNat ei.zeroD)] } a ∧
      Step w I L s w' I L' { s with S := s.S ++ [.arr e k (xs.take n ++ List.replicate z.toNat ei.zeroD)] } ∧ VRel w' I L' (.sl s.S.length (n + z.toNat)) v := by
  obtain ⟨m, rfl⟩ := Int.eq_ofNat_of_zero_le (Int.le_of_lt hz)
  simp only [Int.toNat_natCast] at *
  subst hk
  obtain ⟨j, zv, hj, e1, e2, e3, e4, e5⟩ := (hT _ _ hei).info
  obtain ⟨z', v, hz', hv, hvc, hvs⟩ := zeroD_ok (w := w) (I := I) (hT _ _ hei) (by simpa [okEl] using hok)
  have hzz : z' = zv := by
    have : (zeroValue e).run P w = .ok zv w := by simp [Go.zeroValue, typeInfo, hj, e3]
    rw [this] at hz'
    cases hz'; rfl
  subst hzz
  obtain ⟨vs, hr, hvl, hfirst⟩ : ∃ vs, DRelR w I ei.size (xs.take n) vs ∧ vs.length = n * ei.size ∧ (Builtin.firstCells j.size n (.slice hd n c)).run P w.drew = .ok vs.toArray w.drew := by
    rcases hs.obs _ _ _ hS hl with ⟨base, cp, vs, rfl, hown, hr⟩ | ⟨hd', rfl, rfl⟩
    · simp only [Lay.hdr, Option.some.injEq, Prod.mk.injEq] at hh
      obtain ⟨rfl, rfl⟩ := hh
      have hvl : vs.length = xs.length * ei.size := hr.length
      have hlen : (vs.take (n * ei.size)).length = n * ei.size := by
        rw [List.length_take, hvl]
        exact Nat.min_eq_left (Nat.mul_le_mul_right _ hn)
      refine ⟨vs.take (n * ei.size), hr.take n, hlen, ?_⟩
      cases base with
      | none =>
        have h0 : xs.length = 0 := by
          rcases hown.2 with ⟨_, h⟩ | ⟨g, cpp, cur, he, _⟩
          · exact h
          · simp [Lay.head] at he
        have hn0 : n = 0 := by omega
        subst hn0
        simp [Builtin.firstCells, Lay.head]
      | some b =>
        have hcells : CellsAt w.drew b 0 (vs.take (n * ei.size)) := by
          by_cases h0 : 0 < vs.length
          · obtain ⟨b', hb', hc'⟩ := ownsRow_cells hown h0
            cases hb'
            exact cellsAt_take hc' _
          · rw [List.eq_nil_of_length_eq_zero (show vs.length = 0 by omega)]
            intro j v hv; simp at hv
        have := run_loadCells_list (P := P) w.drew ⟨b, 0, none⟩ (vs.take (n * ei.size)) (fun j v hv => by
          have := hcells j v hv
          simpa [Addr.add_lit] using this)
        rw [hlen] at this
        simp [Builtin.firstCells, Lay.head, e1, this]
    · simp only [List.length_nil, Nat.le_zero] at hn
      subst hn
      refine ⟨[], by simp [DRelR], by simp, ?_⟩
      cases hd <;> simp [Builtin.firstCells, loadCells, loadCellsFrom]
  obtain ⟨b1, b2⟩ := small_bytes hsm hby
  have hm : 0 < m := by omega
  have hmb : m * ei.bytes ≤ (n + m) * ei.bytes := Nat.mul_le_mul_right _ (by omega)
  have hrun := Lib.run_append_grow_zeros (P := P) w t u ty e j z' kz ku ht hu hj e3 hd n c vs hfirst m hm (by rw [e1]; exact hk0) hc (by simp only [maxLen] at b2; omega) (by rw [e2]; omega) (by rw [e2]; exact growslice_fits hc b1)
  generalize hcap : grownCap w (n + m) c e = cp at hrun
  have hge : n + m ≤ cp := hcap ▸ grownCap_ge w (n + m) c e
  have hcm : cp ≤ maxLen := hcap ▸ grownCap_le_maxLen w (n + m) c e b2
  have hzc : ∀ q, (Builtin.zeroCells z'.cells q).toList = (List.replicate q z'.cells.toList).flatten := fun q => by
    rw [← toList_madeCells z'.cells z'.cells.size rfl q]
    rfl
  have hrep := DRelR.replicate hv hvs m
  rw [hvc] at hrep
  have hall := hr.append hrep
  rw [← hzc m] at hall
  have hzl : (Builtin.zeroCells z'.cells m).toList.length = m * ei.size := by
    rw [Array.length_toList, size_zeroCells, e5]
  generalize hw' : w.drew.alloc (.cells (vs.toArray ++ Builtin.zeroCells z'.cells m ++ Builtin.zeroCells z'.cells (cp - (n + m))) e) = w' at hrun
  have hk1 : ∀ b, b < w.heap.size → w'.heap[b]? = w.heap[b]? := by
    intro b hb
    rw [← hw']
    exact heap_alloc_old w.drew _ (by simpa using hb)
  have hs1 : w'.heap.size = w.heap.size + 1 := by rw [← hw']; simp
  have hII : ∀ b, I b → w'.heap[b]? = w.heap[b]? := fun b hb => hk1 b (hs.imm b hb)
  have hnew : w'.heap[w.heap.size]? = some (.cells (vs.toArray ++ Builtin.zeroCells z'.cells m ++ Builtin.zeroCells z'.cells (cp - (n + m))) e (0, 0)) := by
    rw [← hw']
    exact heap_alloc_new w.drew _
  have htl : (xs.take n).length = n := by rw [List.length_take]; omega
  have hxl : (xs.take n ++ List.replicate m ei.zeroD).length = n + m := by rw [List.length_append, htl, List.length_replicate]
  have hown' : ∀ b ∈ own (.arr e ei.size (xs.take n ++ List.replicate m ei.zeroD)) (.a (some w.heap.size) cp), w.heap.size ≤ b ∧ b < w'.heap.size := by
    intro b hb; simp [own] at hb; subst hb; omega
  have hor : ORel w' I (L ++ [.a (some w.heap.size) cp]) (.arr e ei.size (xs.take n ++ List.replicate m ei.zeroD)) (.a (some w.heap.size) cp) := by
    refine .inl ⟨some w.heap.size, cp, vs ++ (Builtin.zeroCells z'.cells m).toList, rfl, ⟨?_, .inr ⟨w.heap.size, cp, _, ?_, Nat.zero_le _, hnew, ?_, hcm, ?_, ?_⟩⟩, DRelR.mono hII (fun _ h => h) _ _ _ hall⟩
    · rw [List.length_append, hvl, hzl, hxl, Nat.add_mul]
    · simp [Lay.head]
    · rw [hxl]; exact hge
    · simp only [Array.size_append, List.size_toArray, size_zeroCells, e5, hvl, ← Nat.add_mul]
      congr 1
      omega
    · rw [hxl]
      simp only [Array.toList_append]
      rw [show (n + m) * ei.size = (vs ++ (Builtin.zeroCells z'.cells m).toList).length from by rw [List.length_append, hvl, hzl, Nat.add_mul]]
      exact List.take_left
  have hsz : w.heap.size ≤ w'.heap.size := by omega
  refine ⟨_, w', _, hrun, hs.more hk1 hsz hor hown' (own_nodup _ _), Step.more hs hk1 (by rw [← hw']; rfl) (by rw [← hw']; rfl) (by rw [← hw']; rfl) hsz hown' hp, ?_⟩
  simp only [VRel]
  exact ⟨.a (some w.heap.size) cp, _, cp, by rw [List.getElem?_append_right (by rw [hs.len]; exact Nat.le_refl _), hs.len]; simp, rfl, rfl⟩

theorem OpOk.append (hT : TabOk P T) {t u : TypeId} {sx yx : Operand} {vx vy : FV} {S' : List Ob} {n' : Nat} (ho : o.op = .call { callee := .builtin .append, args := #[sx, yx], argTypes := #[t, u] })
    (hx : evX s sx = some vx) (hy : evX s yx = some vy) (h : evAp T s t u vx vy = some (S', n')) (hp : s.pin ≤ s.S.length)
    (hset : setS { s with S := S' } o.dst (.sl s.S.length n') = some s') : OpOk P o s s' := fun w I L a hs => by
  unfold evAp at h
  simp only [Option.bind_eq_some_iff] at h
  obtain ⟨i, hi, j, hj, h⟩ := h
  have hI := (hT _ _ hi).kind
  have hJ := (hT _ _ hj).kind
  split at h
  · rename_i e ku hk1 hk2
    rw [hk1] at hI; rw [hk2] at hJ
    simp only [TKOk] at hI hJ
    simp only [Option.bind_eq_some_iff] at h
    obtain ⟨ei, hei, h⟩ := h
    have hvx := hs.evX hx
    have hvy := hs.evX hy
    split at h
    · rename_i id n c kz z
      simp only [VRel, DRel] at hvx hvy
      obtain ⟨l, hd, hl, hh, hvx⟩ := hvx
      split at h
      · rename_i e2 k xs hS
        split at h
        · rename_i hc
          obtain ⟨rfl, hk, hn, hk0, hz, hcc, hsm, hby, hok⟩ := hc
          simp only [Option.some.injEq, Prod.mk.injEq] at h
          obtain ⟨rfl, rfl⟩ := h
          obtain ⟨v, w', L', q1, q2, q3, q4⟩ := zeros_run (ty := o.type) (kz := kz) hT hs hp hI hJ hei hok hS hl hh hk hn hk0 hz hcc hsm hby
          obtain ⟨r4, r5⟩ := put_step q2 q3 q4 hset
          refine ⟨_, w', I, _, _, ?_, .inl rfl, r4, r5⟩
          unfold execOp
          simp only [ho, resolve, invoke, builtin, Sem.run_bind, Sem.run_pure, Result.andThen_ok, List.map_toArray, List.map_cons, List.map_nil, hvx, hvy, q1]
        · cases h
      · cases h
    · cases h
  · rename_i e hk1 hno
    rw [hk1] at hI
    simp only [TKOk] at hI
    simp only [Option.bind_eq_some_iff] at h
    obtain ⟨ei, hei, ys, hys, h⟩ := h
    obtain ⟨tj, z, htj, q1, q2, q3, q4, q5⟩ := (hT _ _ hei).info
    obtain ⟨us, hus, hsrc⟩ := srcT_ok (ty := o.type) hs hI hJ htj q3 q1 (hs.evX hy) hys
    have hvx := hs.evX hx
    have run : ∀ v r w1, a.eval sx = v → (Builtin.append_ #[t, u] o.type #[v, a.eval yx]).run P w = .ok r w1 → (execOp a.eval o).run P w = .ok (.value r) w1 := by
      intro v r w1 hv hr
      unfold execOp
      simp only [ho, resolve, invoke, builtin, Sem.run_bind, Sem.run_pure, Result.andThen_ok, List.map_toArray, List.map_cons, List.map_nil, hv, hr]
    split at h
    · rename_i id n
      simp only [VRel] at hvx
      obtain ⟨l, hd, cap, hl, hh, hvx⟩ := hvx
      split at h
      · rename_i e2 k xs hS
        split at h
        · rename_i hc
          obtain ⟨rfl, rfl, hn, hk, hsm, hby⟩ := hc
          simp only [Option.some.injEq, Prod.mk.injEq] at h
          obtain ⟨rfl, rfl⟩ := h
          have hlen : (xs.take n).length = n := by rw [List.length_take]; omega
          have hob := hs.obs _ _ _ hS hl
          have hob' : ORel w I L (.arr e2 ei.size (xs.take n)) l := by
            rcases hob with ⟨base, cp, vs, rfl, hown, hr⟩ | ⟨hd', rfl, rfl⟩
            · refine .inl ⟨base, cp, vs.take (n * ei.size), rfl, ?_, hr.take n⟩
              rw [hlen]
              by_cases h0 : xs.length = 0
              · have hn0 : n = 0 := by omega
                have hx0 : xs = [] := List.eq_nil_of_length_eq_zero h0
                subst hx0; subst hn0
                simp only [DRelR] at hr
                subst hr
                simpa using hown
              · exact ownsRow_take hown hn h0
            · exact .inr ⟨hd', rfl, by simp⟩
          have hoo : ∀ b ∈ own (.arr e2 ei.size (xs.take n)) l, b ∈ own (.arr e2 ei.size xs) l := fun b hb => by rw [own_arr e2 ei.size xs (xs.take n)]; exact hb
          obtain ⟨b1, b2⟩ := small_bytes hsm hby
          obtain ⟨hd', cap', w1, l1, hr, hl1, hor, e1, e2', e3, e4, e5, e6⟩ := append_run (ty := o.type) q1 (by rw [q5]) hk hsrc hh hob' hus (by rw [hlen]; exact b2) (by rw [hlen, q2]; exact b1)
            (fun b hb => (hs.sep b (owns_mem hS hl b (hoo b hb))).1) hs.imm.lt
          rw [hlen] at hr
          have hw5 : ∀ b, b < w.heap.size → b ∉ own (.arr e2 ei.size xs) l → w1.heap[b]? = w.heap[b]? := fun b hb hn => e5 b hb fun h => hn (hoo b h)
          have hw6 : ∀ b ∈ own (.arr e2 ei.size (xs.take n ++ ys)) l1, (b ∈ own (.arr e2 ei.size xs) l ∨ w.heap.size ≤ b) ∧ b < w1.heap.size := fun b hb => ⟨(e6 b hb).1.imp (hoo b) (fun h => h), (e6 b hb).2⟩
          have r1 := hs.repl hS hl hw5 e4 hor hw6
          have r2 := Step.repl hs hp hS hl hw5 e4 e1 e2' e3 hw6
          have r3 : VRel w1 I (L ++ [l1]) (.sl s.S.length (n + ys.length)) (.slice hd' (n + ys.length) cap') := by
            simp only [VRel]
            exact ⟨l1, hd', cap', by rw [List.getElem?_append_right (by rw [hs.len]; exact Nat.le_refl _), hs.len]; simp, hl1, rfl⟩
          obtain ⟨r4, r5⟩ := put_step r1 r2 r3 hset
          refine ⟨_, w1, I, _, _, run _ _ _ hvx ?_, .inl rfl, r4, r5⟩
          exact hr
        · cases h
      · cases h
    · simp only [VRel, DRel] at hvx
      split at h
      · rename_i hc
        obtain ⟨hk, hsm, hby⟩ := hc
        simp only [Option.some.injEq, Prod.mk.injEq] at h
        obtain ⟨rfl, rfl⟩ := h
        obtain ⟨b1, b2⟩ := small_bytes hsm hby
        have hob : ORel w I L (.arr e ei.size []) (.a none 0) := .inl ⟨none, 0, [], rfl, World.ownsRow_nil w 0 e ei.size, by simp [DRelR]⟩
        obtain ⟨hd', cap', w1, l1, hr, hl1, hor, e1, e2', e3, e4, e5, e6⟩ := append_run (ty := o.type) q1 (by rw [q5]) hk hsrc (by rfl) hob hus (by simpa using b2) (by rw [q2]; simpa using b1)
          (fun b hb => by simp [own] at hb) hs.imm.lt
        simp only [List.nil_append] at hor e6
        have hw5 : ∀ b, b < w.heap.size → w1.heap[b]? = w.heap[b]? := fun b hb => e5 b hb (by simp [own])
        have hw6 : ∀ b ∈ own (.arr e ei.size ys) l1, w.heap.size ≤ b ∧ b < w1.heap.size := fun b hb => ⟨(e6 b hb).1.resolve_left (by simp [own]), (e6 b hb).2⟩
        have hor' := ORel.mono (fun _ _ => rfl) (fun _ h => h) (lay_append L l1) (fun _ _ => rfl) hor
        have r1 := hs.more hw5 e4 hor' hw6 (own_nodup _ _)
        have r2 := Step.more hs hw5 e1 e2' e3 e4 hw6 hp
        have r3 : VRel w1 I (L ++ [l1]) (.sl s.S.length ys.length) (.slice hd' ys.length cap') := by
          simp only [VRel]
          exact ⟨l1, hd', cap', by rw [List.getElem?_append_right (by rw [hs.len]; exact Nat.le_refl _), hs.len]; simp, hl1, rfl⟩
        obtain ⟨r4, r5⟩ := put_step r1 r2 r3 hset
        refine ⟨_, w1, I, _, _, run _ _ _ hvx ?_, .inl rfl, r4, r5⟩
        simpa [Lay.head] using hr
      · cases h
    · cases h
  · cases h

end
end Go.Proofs.YtjlamhilnkadcaaGreatDoor.Pay
