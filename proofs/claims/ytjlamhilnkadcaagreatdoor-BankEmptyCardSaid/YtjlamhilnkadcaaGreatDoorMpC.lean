/- Maps over abstract data: an own map is written no more; a loop over a map that is empty. No statement of the seed is proved here. -/
import Derived.Test.YtjlamhilnkadcaaGreatDoorPayO
namespace Go.Proofs.YtjlamhilnkadcaaGreatDoor.Pay
open Go Go.RowKit
set_option linter.unusedVariables false
set_option linter.unusedSimpArgs false
section
variable {P : Program} {T : Nat → Option TI} {s s' : St}

theorem Gh.frzMap {id : Nat} {ks es : List D} (hS : s.S[id]? = some (.map ks es)) : Gh s { s with S := s.S.set id (.fmap ks es) } := fun w I L a hs => by
  have hlt : id < L.length := by rw [hs.len]; exact (List.getElem?_eq_some_iff.1 hS).1
  obtain ⟨l, hl⟩ : ∃ l, L[id]? = some l := ⟨L[id], List.getElem?_eq_getElem hlt⟩
  obtain ⟨d1, d2⟩ := owns_drop (o' := .fmap ks es) hS hl (by cases l <;> rfl) hs.nodup
  have hI : ∀ b, I b → (I b ∨ b ∈ own (.map ks es) l) := fun b hb => .inl hb
  refine ⟨fun b => I b ∨ b ∈ own (.map ks es) l, L, ⟨fun t x hx => VRel.mono (fun _ _ => rfl) hI (fun _ _ h => h) _ _ (hs.env t x hx), hs.nt, by simp [hs.len], ?_, d1, ?_, ?_, hs.defers⟩,
    ⟨⟨rfl, rfl, rfl, Nat.le_refl _, fun _ _ _ => rfl, hI, fun b hb => ?_, fun b hb => .inl (d2 b hb).1⟩, rfl, fun _ _ => rfl⟩⟩
  · intro j oj lj h1 h2
    by_cases hj : id = j
    · subst hj
      have h1' : (s.S.set id (.fmap ks es))[id]? = some oj := h1
      rw [List.getElem?_set_self (List.getElem?_eq_some_iff.1 hS).1] at h1'
      cases h1'
      rw [hl] at h2; cases h2
      obtain ⟨r, ents, clock, rfl, hr, hb, k1, k2⟩ := hs.obs _ _ _ hS hl
      refine ⟨r, rfl, ?_⟩
      simp only [DRel]
      exact ⟨r, ents, clock, rfl, .inr (by simp [own]), hr, hb, DRelL.mono (fun _ _ => rfl) hI _ _ k1, DRelL.mono (fun _ _ => rfl) hI _ _ k2⟩
    · have h1' : (s.S.set id (.fmap ks es))[j]? = some oj := h1
      rw [List.getElem?_set_ne hj] at h1'
      exact ORel.mono (fun _ _ => rfl) hI (fun _ _ h => h) (fun _ _ => rfl) (hs.obs j oj lj h1' h2)
  · intro b hb
    have h1 := d2 b hb
    have h2 := hs.sep b h1.1
    exact ⟨fun h => h.elim h2.1 h1.2, h2.2⟩
  · refine hs.imm.more hI fun b hb => ?_
    rcases hb with hb | hb
    · exact hs.imm b hb
    · exact (hs.sep b (owns_mem hS hl b hb)).2
  · rcases hb with hb | hb
    · exact .inl hb
    · exact .inr (.inl (owns_mem hS hl b hb))

/-- A loop over a map begins. -/
theorem OpOk.range (hT : TabOk P T) {o : Oper} {t kt et : TypeId} {x : Operand} {id : Nat} {ks es : List D} {i : TI} (ho : o.op = .range t x) (hi : T t = some i) (hk : i.kind = .map kt et) (hx : evX s x = some (.mp id)) (hS : s.S[id]? = some (.fmap ks es)) (hp : s.pin ≤ s.S.length)
    (hset : setS { s with S := s.S ++ [.iter ks es []] } o.dst (.ref s.S.length 0) = some s') : OpOk P o s s' := fun w I L a hs => by
  have hti := (hT _ _ hi).kind
  rw [hk] at hti
  simp only [TKOk] at hti
  have hvx := hs.evX hx
  simp only [VRel] at hvx
  obtain ⟨rb, hl, hvx⟩ := hvx
  obtain ⟨r0, he, hd⟩ := hs.obs _ _ _ hS hl
  cases he
  simp only [DRel] at hd
  obtain ⟨r2, ents, clock, e2, hI, hr, hb, h1, h2⟩ := hd
  cases e2
  have hck : clock = ents.size := hb.1
  subst hck
  have hsz : (w.alloc (.mapIter (some rb) ents.size #[] ents.size)).heap.size = w.heap.size + 1 := by simp
  have hw := heapAlloc w (.mapIter (some rb) ents.size #[] ents.size)
  have hown : ∀ b ∈ own (.iter ks es []) (.c w.heap.size), w.heap.size ≤ b ∧ b < (w.alloc (.mapIter (some rb) ents.size #[] ents.size)).heap.size := by
    intro b hb; simp [own] at hb; subst hb; omega
  have hrlt : rb < w.heap.size := hs.imm rb hI
  have hkeep : ∀ b, I b → (w.alloc (.mapIter (some rb) ents.size #[] ents.size)).heap[b]? = w.heap[b]? := fun b hb => hw b (hs.imm b hb)
  have e1 : SR (w.alloc (.mapIter (some rb) ents.size #[] ents.size)) I (L ++ [.c w.heap.size]) { s with S := s.S ++ [.iter ks es []] } a :=
    hs.more hw (by omega) ⟨w.heap.size, rb, ents, rfl, heap_alloc_new w _, hI, (hw rb hrlt).trans hr, hb, by simp, DRelL.mono hkeep (fun _ h => h) _ _ h1, DRelL.mono hkeep (fun _ h => h) _ _ h2⟩ hown (by simp [own])
  have e2 : Step w I L s (w.alloc (.mapIter (some rb) ents.size #[] ents.size)) I (L ++ [.c w.heap.size]) { s with S := s.S ++ [.iter ks es []] } := Step.more hs hw rfl rfl rfl (by omega) hown hp
  have e3 : VRel (w.alloc (.mapIter (some rb) ents.size #[] ents.size)) I (L ++ [.c w.heap.size]) (.ref s.S.length 0) (.pointer (some ⟨w.heap.size, 0, none⟩)) := by
    simp only [VRel]
    exact ⟨w.heap.size, by rw [List.getElem?_append_right (by rw [hs.len]; exact Nat.le_refl _), hs.len]; simp, rfl⟩
  obtain ⟨e4, e5⟩ := put_step e1 e2 e3 hset
  refine ⟨_, _, I, _, _, ?_, .inl rfl, e4, e5⟩
  unfold execOp
  simp [ho, hvx, Instr.range, run_underlying hti, MapKept.run_getObj_map hr]

/-- Of an empty map nothing comes. -/
theorem OpOk.next0 {o : Oper} {x : Operand} {id : Nat} (ho : o.op = .next x false) (hx : evX s x = some (.ref id 0)) (hS : s.S[id]? = some (.iter [] [] []))
    (hset : setS s o.dst (.tup [.d (.bool false)]) = some s') : OpOk P o s s' := fun w I L a hs => by
  have hvx := hs.evX hx
  simp only [VRel] at hvx
  have hlt : id < L.length := by rw [hs.len]; exact (List.getElem?_eq_some_iff.1 hS).1
  obtain ⟨l, hl⟩ : ∃ l, L[id]? = some l := ⟨L[id], List.getElem?_eq_getElem hlt⟩
  obtain ⟨b, r, ents, rfl, hb, hI, hr, hbo, _, h1, h2⟩ := hs.obs _ _ _ hS hl
  obtain ⟨b', hl', hvx⟩ := hvx
  rw [hl] at hl'; cases hl'
  have he : ents = #[] := by
    have : ents.toList.map (·.key) = [] := by simpa [DRelL] using h1
    simpa using this
  subst he
  obtain ⟨e1, e2, e3⟩ := hs.put (x := .tup [.d (.bool false)]) (v := .tuple #[.bool false]) (by simp only [VRel, VRelL, DRel]; exact ⟨[.bool false], rfl, _, _, rfl, rfl, rfl⟩) hset
  refine ⟨_, w, I, L, _, ?_, .inl rfl, e1, ⟨?_, e3, fun _ _ => rfl⟩⟩
  · unfold execOp
    simp [ho, hvx, Instr.next, getObj, Sem.run, hb, hr, Result.andThen, choose, Question.forced]
  · rw [e2]; exact Evo.refl _ _ _
/-- What a variable holds is told in another way: a nil slice is an empty row. -/
theorem Gh.cellLe {id : Nat} {t : TypeId} {cs cs' : List FV} (hS : s.S[id]? = some (.cells t cs)) (h : leA cs cs') : Gh s { s with S := s.S.set id (.cells t cs') } := fun w I L a hs => by
  have hlt : id < L.length := by rw [hs.len]; exact (List.getElem?_eq_some_iff.1 hS).1
  obtain ⟨l, hl⟩ : ∃ l, L[id]? = some l := ⟨L[id], List.getElem?_eq_getElem hlt⟩
  obtain ⟨b, vs, rfl, hb, ho, hv⟩ := hs.obs _ _ _ hS hl
  exact ⟨I, L, hs.upd hS hl rfl (fun _ _ _ => rfl) rfl ⟨b, vs, rfl, hb, ho, leA_ok h hv⟩, Step.upd hS hl rfl (fun _ _ _ => rfl) rfl rfl rfl rfl⟩
end
end Go.Proofs.YtjlamhilnkadcaaGreatDoor.Pay
