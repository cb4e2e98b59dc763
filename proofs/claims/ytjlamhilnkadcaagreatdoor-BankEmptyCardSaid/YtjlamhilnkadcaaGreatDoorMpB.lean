/- Maps over abstract data: made, written, gone through. No statement of the seed is proved here. -/
import Derived.Test.YtjlamhilnkadcaaGreatDoorPayG
import Derived.Laws.IdiomRangeMap
namespace Go.Proofs.YtjlamhilnkadcaaGreatDoor.Pay
open Go Go.RowKit
set_option linter.unusedVariables false
set_option linter.unusedSimpArgs false

/-- A key is written: the keys, and what they stand for. -/
def mpSet (ks es : List D) (k x : D) : Option Nat → List D × List D
  | some j => (ks, es.set j x)
  | none => (ks ++ [k], es ++ [x])
/-- A map's own id, its keys, what they stand for. -/
def mapO (S : List Ob) : FV → Option (Nat × List D × List D)
  | .mp id => match S[id]? with
    | some (.map ks es) => some (id, ks, es)
    | _ => none
  | _ => none
def evMu (T : Nat → Option TI) (s : St) (t : TypeId) (m k x : FV) : Option (List Ob) :=
  (T t).bind fun i => (match i.kind, k, x with
  | .map kt _, .d kd, .d xd => (T kt).bind fun ki => if keyOk ki.kind kd = true then
      (mapO s.S m).bind fun p => (keyAt kd p.2.1 0).map fun r => s.S.set p.1 (.map (mpSet p.2.1 p.2.2 kd xd r).1 (mpSet p.2.1 p.2.2 kd xd r).2)
    else none
  | _, _, _ => none)

section
variable {P : Program} {T : Nat → Option TI} {w w' : World} {I : Nat → Prop} {L : List Lay} {s s' : St} {a : Act} {all : Array Oper} {o : Oper} {rest : List Oper} {Q : Exit → St → Prop}

theorem DRelL.set {cs : List D} {vs : List Value} {n : Nat} {x : D} {v : Value} (h : DRelL w I cs vs) (hx : DRel w I x v) : DRelL w I (cs.set n x) (vs.set n v) := by
  induction cs generalizing vs n with
  | nil => simp only [DRelL] at h; subst h; simp [DRelL]
  | cons c cs ih =>
    simp only [DRelL] at h
    obtain ⟨u, r, rfl, h1, h2⟩ := h
    cases n with
    | zero => simp only [List.set_cons_zero, DRelL]; exact ⟨v, r, rfl, hx, h2⟩
    | succ n => simp only [List.set_cons_succ, DRelL]; exact ⟨u, _, rfl, h1, ih h2⟩

theorem BornOk.push {ents : Array MapEntry} {clock : Nat} (h : BornOk ents clock) (key val : Value) : BornOk (ents.push { key, val, born := clock }) (clock + 1) := by
  refine ⟨by simp [h.1], fun i e he => ?_⟩
  rw [Array.getElem?_push] at he
  split at he
  · rename_i hi
    cases he
    exact h.1.trans hi.symm
  · exact h.2 i e he
theorem BornOk.modify {ents : Array MapEntry} {clock : Nat} (h : BornOk ents clock) (j : Nat) (f : MapEntry → MapEntry) (hf : ∀ e, (f e).born = e.born) : BornOk (ents.modify j f) clock := by
  refine ⟨by simp [h.1], fun i e he => ?_⟩
  rw [Array.getElem?_modify] at he
  split at he
  · rename_i hi
    simp only [Option.map_eq_some_iff] at he
    obtain ⟨e0, he0, rfl⟩ := he
    rw [hf]
    exact h.2 i e0 he0
  · exact h.2 i e he
theorem heap_setAt {r k : Nat} {o : Obj} (hk : k ≠ r) : ({ w with heap := w.heap.setIfInBounds r o } : World).heap[k]? = w.heap[k]? := by
  show (w.heap.setIfInBounds r o)[k]? = _
  simp [Ne.symm hk]
theorem heap_setAt_self {r : Nat} {o : Obj} (hr : r < w.heap.size) : ({ w with heap := w.heap.setIfInBounds r o } : World).heap[r]? = some o := by
  show (w.heap.setIfInBounds r o)[r]? = _
  simp [hr]

/-- An own map's block is exchanged. -/
theorem setMap_ok (hs : SR w I L s a) {id r : Nat} {ks es ks' es' : List D} {ents ents' : Array MapEntry} {clock clock' : Nat} (hS : s.S[id]? = some (.map ks es)) (hl : L[id]? = some (.m r)) (hr : w.heap[r]? = some (.map ents clock))
    (hb : BornOk ents' clock') (h1 : DRelL w I ks' (ents'.toList.map (·.key))) (h2 : DRelL w I es' (ents'.toList.map (·.val))) :
    SR { w with heap := w.heap.setIfInBounds r (.map ents' clock') } I L { s with S := s.S.set id (.map ks' es') } a ∧
    Step w I L s { w with heap := w.heap.setIfInBounds r (.map ents' clock') } I L { s with S := s.S.set id (.map ks' es') } := by
  have hlt : r < w.heap.size := (Array.getElem?_eq_some_iff.1 hr).1
  have hmem : r ∈ owns s.S L := owns_mem hS hl r (by simp [own])
  have hnI : ¬ I r := (hs.sep r hmem).1
  have hkeep : ∀ b, I b → ({ w with heap := w.heap.setIfInBounds r (.map ents' clock') } : World).heap[b]? = w.heap[b]? := fun b hb => heap_setAt fun e => hnI (e ▸ hb)
  have hown : own (.map ks' es') (.m r) = own (.map ks es) (.m r) := rfl
  have hsz : ({ w with heap := w.heap.setIfInBounds r (.map ents' clock') } : World).heap.size = w.heap.size := by
    show (w.heap.setIfInBounds r _).size = _
    simp
  refine ⟨hs.upd hS hl hown (fun b _ hb' => heap_setAt fun e => hb' (by simp [own, e])) hsz ?_, Step.upd hS hl hown (fun b _ hb' => heap_setAt fun e => hb' (by simp [own, e])) hsz rfl rfl rfl⟩
  exact ⟨r, ents', clock', rfl, heap_setAt_self hlt, hb, DRelL.mono hkeep (fun _ h => h) _ _ h1, DRelL.mono hkeep (fun _ h => h) _ _ h2⟩

theorem OpOk.makeMap {o : Oper} {t : TypeId} (ho : o.op = .makeMap t none) (hp : s.pin ≤ s.S.length) (hset : setS { s with S := s.S ++ [.map [] []] } o.dst (.mp s.S.length) = some s') : OpOk P o s s' := fun w I L a hs => by
  have hsz : (w.alloc (.map #[] 0)).heap.size = w.heap.size + 1 := by simp
  have hw := heapAlloc w (.map #[] 0)
  have hown : ∀ b ∈ own (.map [] []) (.m w.heap.size), w.heap.size ≤ b ∧ b < (w.alloc (.map #[] 0)).heap.size := by
    intro b hb; simp [own] at hb; subst hb; omega
  have e1 : SR (w.alloc (.map #[] 0)) I (L ++ [.m w.heap.size]) { s with S := s.S ++ [.map [] []] } a :=
    hs.more hw (by omega) ⟨w.heap.size, #[], 0, rfl, heap_alloc_new w _, ⟨rfl, fun i e h => by simp at h⟩, by simp [DRelL], by simp [DRelL]⟩ hown (by simp [own])
  have e2 : Step w I L s (w.alloc (.map #[] 0)) I (L ++ [.m w.heap.size]) { s with S := s.S ++ [.map [] []] } := Step.more hs hw rfl rfl rfl (by omega) hown hp
  have e3 : VRel (w.alloc (.map #[] 0)) I (L ++ [.m w.heap.size]) (.mp s.S.length) (.map (some w.heap.size)) := by
    simp only [VRel]
    exact ⟨w.heap.size, by rw [List.getElem?_append_right (by rw [hs.len]; exact Nat.le_refl _), hs.len]; simp, rfl⟩
  obtain ⟨e4, e5⟩ := put_step e1 e2 e3 hset
  refine ⟨_, _, I, _, _, ?_, .inl rfl, e4, e5⟩
  unfold execOp
  simp only [ho, Instr.makeMap, Option.map_none, Sem.run_bind, Result.andThen_ok, run_newObj, Sem.run_pure]
  rfl

theorem OpOk.mapUpdate (hT : TabOk P T) {o : Oper} {t : TypeId} {m k x : Operand} {vm vk vx : FV} {S' : List Ob} (ho : o.op = .mapUpdate t m k x) (hm : evX s m = some vm) (hk : evX s k = some vk) (hx : evX s x = some vx)
    (hS : evMu T s t vm vk vx = some S') (hset : setS { s with S := S' } o.dst (.tup []) = some s') : OpOk P o s s' := fun w I L a hs => by
  unfold evMu at hS
  simp only [Option.bind_eq_some_iff] at hS
  obtain ⟨i, hi, hS⟩ := hS
  split at hS
  · rename_i kt et kd xd hkd
    simp only [Option.bind_eq_some_iff] at hS
    obtain ⟨ki, hki, hS⟩ := hS
    split at hS
    · rename_i hcond
      simp only [Option.bind_eq_some_iff, Option.map_eq_some_iff] at hS
      obtain ⟨⟨id, ks, es⟩, hO, r, hr, rfl⟩ := hS
      have hvm := hs.evX hm
      have hvk := hs.evX hk
      have hvx := hs.evX hx
      simp only [VRel] at hvk hvx
      have hti := (hT _ _ hi).kind
      rw [hkd] at hti
      simp only [TKOk] at hti
      obtain ⟨d, hd, hkey⟩ := keyOk_desc (hT _ _ hki).kind hcond hvk
      unfold mapO at hO
      split at hO
      · rename_i id0
        split at hO
        · rename_i ks0 es0 hS0
          cases hO
          simp only [VRel] at hvm
          obtain ⟨rb, hl, hvm⟩ := hvm
          obtain ⟨r', ents, clock, he, hb, hk2, h1, h2⟩ := hs.obs _ _ _ hS0 hl
          cases he
          have hux : VRel w I L (.tup []) undef := by simp only [VRel, VRelL]; exact ⟨[], rfl, rfl⟩
          rcases findNow_ok hkey hvk h1 hr with ⟨rfl, hf⟩ | ⟨j, e, rfl, hej, hf, hek⟩
          · have hb' := hk2.push (a.eval k) (a.eval x)
            obtain ⟨e1, e2⟩ := setMap_ok hs hS0 hl hb (ks' := ks ++ [kd]) (es' := es ++ [xd]) hb' (by
              rw [Array.toList_push, List.map_append]
              exact DRelL.append h1 (by simp only [List.map_cons, List.map_nil, DRelL]; exact ⟨_, _, rfl, hvk, rfl⟩)) (by
              rw [Array.toList_push, List.map_append]
              exact DRelL.append h2 (by simp only [List.map_cons, List.map_nil, DRelL]; exact ⟨_, _, rfl, hvx, rfl⟩))
            obtain ⟨e4, e5⟩ := put_step e1 e2 (x := .tup []) (v := undef) (by simp only [VRel, VRelL]; exact ⟨[], rfl, rfl⟩) hset
            refine ⟨.skip, _, I, _, _, ?_, .inr ⟨rfl, rfl⟩, e4, e5⟩
            unfold execOp
            simp [ho, hvm, Instr.mapUpdate, run_underlying hti, MapKept.run_getObj_map hb, MapKept.run_checkKey hd hkey, MapKept.run_findKey hd hf, MapKept.run_setObj_map _ hb, Result.andThen]
          · simp only [Nat.zero_add] at hf hset
            have hb' := hk2.modify j (fun e => { e with key := a.eval k, val := a.eval x }) (fun _ => rfl)
            have hkeys : (ents.modify j (fun e => { e with key := a.eval k, val := a.eval x })).toList.map (·.key) = ents.toList.map (·.key) := MapKept.modify_keys j _ (fun e0 he0 => by
              rw [← Array.getElem?_toList] at he0
              rw [hej] at he0; cases he0
              exact hek.symm)
            have hvals : (ents.modify j (fun e => { e with key := a.eval k, val := a.eval x })).toList.map (·.val) = (ents.toList.map (·.val)).set j (a.eval x) := by
              apply List.ext_getElem?
              intro q
              simp only [List.getElem?_map, Array.getElem?_toList, Array.getElem?_modify, List.getElem?_set, List.length_map, Array.length_toList]
              by_cases hq : j = q
              · subst hq
                rw [Array.getElem?_toList] at hej
                have hjl : j < ents.size := (Array.getElem?_eq_some_iff.1 hej).1
                simp [hej, hjl]
              · simp [hq]
            obtain ⟨e1, e2⟩ := setMap_ok hs hS0 hl hb (ks' := ks) (es' := es.set j xd) hb' (by rw [hkeys]; exact h1) (by rw [hvals]; exact DRelL.set h2 hvx)
            obtain ⟨e4, e5⟩ := put_step e1 e2 (x := .tup []) (v := undef) (by simp only [VRel, VRelL]; exact ⟨[], rfl, rfl⟩) hset
            refine ⟨.skip, _, I, _, _, ?_, .inr ⟨rfl, rfl⟩, e4, e5⟩
            have hgk : ((ents[j]?).map (·.key)).getD (a.eval k) = a.eval k := by
              rw [Array.getElem?_toList] at hej
              simp [hej, hek]
            unfold execOp
            simp [ho, hvm, Instr.mapUpdate, run_underlying hti, MapKept.run_getObj_map hb, MapKept.run_checkKey hd hkey, MapKept.run_findKey hd hf, hgk, MapKept.run_keyThatStays hkey, MapKept.run_setObj_map _ hb, Result.andThen]
        · cases hO
      · cases hO
    · cases hS
  · cases hS
end
end Go.Proofs.YtjlamhilnkadcaaGreatDoor.Pay
