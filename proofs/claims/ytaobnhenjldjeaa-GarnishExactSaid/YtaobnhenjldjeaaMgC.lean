/- The texts PayS, PayK, PayL, PayM, PayN, PayO, one behind the other. No statement of the seed is proved here. -/
import Derived.Lib.Overlaps
import Derived.Deep.Quiet
import Derived.Laws.StructEq
import Derived.Test.YtaobnhenjldjeaaMgB
/- The copy of elements into a row of the call's own. No statement of the seed is proved here. -/
namespace Go.Proofs.Ytaobnhenjldjeaa.Pay
open Go Go.RowKit
set_option linter.unusedVariables false
set_option linter.unusedSimpArgs false

section
variable {P : Program} {T : Nat → Option TI} {w w' : World} {I : Nat → Prop} {L : List Lay} {s s' : St} {a : Act}

/-- What is copied: the elements that are known, and how many there are. -/
def srcC (s : St) (k : Nat) (y : FV) : Option (List D × Nat) := match y with
  | .so id k' off n => (match s.S[id]? with
    | some (.arr _ k2 xs) => if k' = k ∧ k2 = k then some ((xs.drop off).take n, n) else none
    | _ => none)
  | y => (srcV s k y).map fun ys => (ys, ys.length)

def evCo (T : Nat → Option TI) (s : St) (t : TypeId) (x y : FV) : Option (List Ob × Nat) :=
  (T t).bind fun i => match i.kind, x with
  | .slice e, .so id k off n => (T e).bind fun ei => (srcC s ei.size y).bind fun q => (match s.S[id]? with
    | some (.arr e' k' xs) => if e' = e ∧ k = ei.size ∧ k' = ei.size ∧ off ≤ xs.length ∧ min q.2 n ≤ q.1.length then
        some (s.S.set id (.arr e' k' (xs.take off ++ q.1.take (min q.2 n) ++ xs.drop (off + min q.2 n))), min q.2 n) else none
    | _ => none)
  | _, _ => none

theorem srcC_ok (hs : SR w I L s a) {k : Nat} {y : FV} {v : Value} {q : List D × Nat} (hy : VRel w I L y v) (h : srcC s k y = some q) :
    ∃ hd c us, v = .slice hd q.2 c ∧ DRelR w I k q.1 us ∧ (us = [] ∨ ∃ b o, hd = some ⟨b, o, none⟩ ∧ CellsAt w b o us) ∧ (hd = none → q.1 = []) := by
  unfold srcC at h
  split at h
  · rename_i id k' off n
    split at h
    · rename_i e k2 xs hS
      split at h
      · rename_i hk
        obtain ⟨rfl, rfl⟩ := hk
        cases h
        simp only [VRel] at hy
        obtain ⟨l, hd, c, hl, hv, hle, hx⟩ := hy
        rcases hx with h0 | ⟨b, cap, rfl, rfl, hcap⟩
        · subst h0
          exact ⟨hd, c, [], hv, by simp [DRelR], .inl rfl, fun _ => by simp⟩
        · rcases hs.obs _ _ _ hS hl with ⟨base, cp, vs, he, hown, hr⟩ | ⟨hd', he, _⟩
          rotate_left
          · cases he
          cases he
          refine ⟨_, c, (vs.drop (off * k2)).take (n * k2), hv, (hr.drop off).take n, .inr ⟨b, off * k2, rfl, ?_⟩, fun e => by cases e⟩
          by_cases h0 : 0 < vs.length
          · obtain ⟨b', hb', hc'⟩ := ownsRow_cells hown h0
            cases hb'
            have := cellsAt_take (cellsAt_drop hc' (off * k2)) (n * k2)
            simpa using this
          · rw [List.eq_nil_of_length_eq_zero (show vs.length = 0 by omega)]
            intro j v hv; simp at hv
      · cases h
    · cases h
  · simp only [Option.map_eq_some_iff] at h
    obtain ⟨ys, hys, rfl⟩ := h
    exact srcV_ok hs hy hys

/-- A row of the call's own, written from a place on, within its room. -/
theorem ownsRow_put {e : TypeId} {k n cap b : Nat} {vs us : List Value} {p m : Nat} (h : w.ownsRow 0 e k (.slice (some ⟨b, 0, none⟩) n cap) n vs) (hp : p ≤ n) (hm : p + m ≤ cap) (hu : us.length = m * k) :
    ∃ cur : Array Value, w.heap[b]? = some (.cells cur e (0, 0)) ∧ p * k + us.length ≤ cur.size ∧
      (w.setRow b (cur.toList.take (p * k) ++ us ++ cur.toList.drop (p * k + us.length)).toArray).ownsRow 0 e k (.slice (some ⟨b, 0, none⟩) (max n (p + m)) cap) (max n (p + m)) (vs.take (p * k) ++ us ++ vs.drop ((p + m) * k)) := by
  obtain ⟨hl, h⟩ := h
  rcases h with ⟨h, _⟩ | ⟨g, cp, cur, he, _, hg, hn, hmx, hc, ht⟩
  · cases h
  · cases he
    have hpk : p * k ≤ n * k := Nat.mul_le_mul_right _ hp
    have hck : n * k ≤ cap * k := Nat.mul_le_mul_right _ hn
    have hmk : (p + m) * k ≤ cap * k := Nat.mul_le_mul_right _ hm
    have hadd : (p + m) * k = p * k + us.length := by rw [Nat.add_mul, hu]
    have hcs : cur.toList.length = cap * k := by rw [Array.length_toList, hc]
    have hmax : max n (p + m) * k = max (n * k) (p * k + us.length) := by
      rw [← hadd]
      by_cases h : n ≤ p + m
      · rw [Nat.max_eq_right h, Nat.max_eq_right (Nat.mul_le_mul_right _ h)]
      · rw [Nat.max_eq_left (by omega), Nat.max_eq_left (Nat.mul_le_mul_right _ (by omega))]
    refine ⟨cur, hg, by omega, ?_, .inr ⟨b, cap, _, rfl, Nat.zero_le _, setRow_heap w b cur _ e (0, 0) hg, by omega, hmx, ?_, ?_⟩⟩
    · rw [hmax, hadd]
      simp only [List.length_append, List.length_take, List.length_drop, hl]
      omega
    · simp only [List.size_toArray, List.length_append, List.length_take, List.length_drop, hcs]
      omega
    · rw [hmax, hadd, ← ht]
      apply List.ext_getElem?
      intro j
      simp only [List.getElem?_take, List.getElem?_append, List.getElem?_drop, List.length_append, List.length_take, hcs]
      have e1 : min (p * k) (cap * k) = p * k := by omega
      have e2 : min (p * k) (min (n * k) (cap * k)) = p * k := by omega
      rw [e1, e2]
      by_cases h1 : j < p * k
      · simp [h1, show j < max (n * k) (p * k + us.length) by omega, show j < p * k + us.length by omega, show j < n * k by omega]
      · by_cases h2 : j < p * k + us.length
        · simp [h1, h2, show j < max (n * k) (p * k + us.length) by omega]
        · by_cases h3 : j < n * k
          · simp [h2, show j < max (n * k) (p * k + us.length) by omega, show p * k + us.length + (j - (p * k + us.length)) < n * k by omega]
          · simp [h2, show ¬ j < max (n * k) (p * k + us.length) by omega, show ¬ p * k + us.length + (j - (p * k + us.length)) < n * k by omega]

theorem run_copy {dT sT ty e : TypeId} {i : TypeInfo} (hu : P.underlying dT = some (.slice e)) (hi : P.info? e = some i) {hd hd2 : Option Addr} {n c m c2 cnt : Nat} {us : List Value} (hcnt : min m n = cnt)
    (hus : us.length = cnt * i.size) (hn : hd2 = none → us = []) (hcs : us = [] ∨ ∃ b o, hd2 = some ⟨b, o, none⟩ ∧ CellsAt w b o us) :
    (Builtin.copy_ #[dT, sT] ty #[.slice hd n c, .slice hd2 m c2]).run P w = Result.andThen ((match hd with | some ad => storeCells ad us | none => pure ()).run P w) (fun _ w' => .ok (goInt cnt) w') := by
  have hl : (Builtin.firstCells i.size cnt (.slice hd2 m c2)).run P w = .ok us.toArray w := by
    cases hd2 with
    | none => rw [hn rfl]; rfl
    | some ad =>
      have hc : ∀ j v, us[j]? = some v → w.cell? (ad.add j) = some v := by
        intro j v hv
        rcases hcs with rfl | ⟨b, o, he, hc⟩
        · simp at hv
        · cases he
          simpa [Addr.add_lit] using hc j v hv
      have := run_loadCells_list (P := P) w ad us hc
      simp only [Builtin.firstCells]
      rw [← hus]; exact this
  have hmin : Nat.min m n = cnt := hcnt
  cases hd <;> simp [Builtin.copy_, run_underlying hu, Builtin.lenOf, sizeOf, typeInfo, hi, hmin, hl]

theorem OpOk.copy (hT : TabOk P T) {t u : TypeId} {dx yx : Operand} {vx vy : FV} {S' : List Ob} {n' : Nat} {o : Oper} (ho : o.op = .call { callee := .builtin .copy, args := #[dx, yx], argTypes := #[t, u] })
    (hx : evX s dx = some vx) (hy : evX s yx = some vy) (h : evCo T s t vx vy = some (S', n')) (hset : setS { s with S := S' } o.dst (.d (.int .i64 n')) = some s') : OpOk P o s s' := fun w I L a hs => by
  unfold evCo at h
  simp only [Option.bind_eq_some_iff] at h
  obtain ⟨i, hi, h⟩ := h
  have hI := (hT _ _ hi).kind
  split at h
  · rename_i e id k off n hk
    rw [hk] at hI
    simp only [TKOk] at hI
    simp only [Option.bind_eq_some_iff] at h
    obtain ⟨ei, hei, q, hq, h⟩ := h
    obtain ⟨tj, z, htj, q1, q2, q3, q4, q5⟩ := (hT _ _ hei).info
    split at h
    · rename_i e' k' xs hS
      split at h
      · rename_i hc
        obtain ⟨rfl, rfl, rfl, hoff, hmin⟩ := hc
        simp only [Option.some.injEq, Prod.mk.injEq] at h
        obtain ⟨rfl, rfl⟩ := h
        obtain ⟨hd2, c2, us, hvy, hus, hcs, hdn⟩ := srcC_ok hs (hs.evX hy) hq
        have hvx := hs.evX hx
        simp only [VRel] at hvx
        obtain ⟨l, hd, c, hl, hvx, hle, hxx⟩ := hvx
        generalize hcnt : min q.2 n = cnt at *
        have hus' := hus.take cnt
        have hul : (us.take (cnt * ei.size)).length = cnt * ei.size := by
          rw [hus'.length, List.length_take, Nat.min_eq_left hmin]
        have hone : Ones (us.take (cnt * ei.size)) := hus.ones.take _
        have hrun := run_copy (P := P) (w := w) (dT := t) (sT := u) (ty := o.type) hI htj (hd := hd) (hd2 := hd2) (n := n) (c := c) (m := q.2) (c2 := c2) (us := us.take (cnt * ei.size)) hcnt (by rw [q1]; exact hul)
          (fun e => by have h1 := hus.length; rw [hdn e] at h1; rw [List.eq_nil_of_length_eq_zero (show us.length = 0 by simpa using h1)]; simp)
          (by
            rcases hcs with rfl | ⟨b, o, he, hc⟩
            · left; simp
            · exact .inr ⟨b, o, he, cellsAt_take hc _⟩)
        have hxlen : (xs.take off).length = off := by rw [List.length_take]; omega
        have hqlen : (q.1.take cnt).length = cnt := by rw [List.length_take]; omega
        have exec : ∀ (w1 : World) (s1 : St), ((match hd with | some ad => storeCells ad (us.take (cnt * ei.size)) | none => pure ()).run P w) = .ok () w1 →
            SR w1 I L { s with S := s.S.set id (.arr e' ei.size (xs.take off ++ q.1.take cnt ++ xs.drop (off + cnt))) } a →
            Step w I L s w1 I L { s with S := s.S.set id (.arr e' ei.size (xs.take off ++ q.1.take cnt ++ xs.drop (off + cnt))) } →
            ∃ r w' I' L' v, (execOp a.eval o).run P w = .ok r w' ∧ (r = .value v ∨ r = .skip ∧ v = undef) ∧ SR w' I' L' s' (a.put o.dst v) ∧ Step w I L s w' I' L' s' := by
          intro w1 s1 hw1 h1 h2
          obtain ⟨r4, r5⟩ := put_step (v := goInt cnt) h1 h2 (by simp only [VRel, DRel, goInt]) hset
          refine ⟨_, w1, I, L, _, ?_, .inl rfl, r4, r5⟩
          rw [hw1] at hrun
          unfold execOp
          simp only [ho, resolve, invoke, builtin, Sem.run_bind, Sem.run_pure, Result.andThen_ok, List.map_toArray, List.map_cons, List.map_nil, hvx, hvy, hrun]
        by_cases h0 : cnt = 0
        · subst h0
          have hsame : s.S.set id (.arr e' ei.size (xs.take off ++ q.1.take 0 ++ xs.drop (off + 0))) = s.S := by
            apply List.ext_getElem?
            intro j
            by_cases hj : id = j
            · subst hj
              rw [List.getElem?_set_self (List.getElem?_eq_some_iff.1 hS).1, hS]
              simp
            · rw [List.getElem?_set_ne hj]
          refine exec w s ?_ ?_ ?_
          · simp only [Nat.zero_mul, List.take_zero]
            cases hd <;> rfl
          · rw [hsame]; exact hs
          · rw [hsame]; exact Step.refl _ _ _ _
        · rcases hxx with hn0 | ⟨b, cap, rfl, rfl, hcap⟩
          · omega
          rcases hs.obs _ _ _ hS hl with ⟨base, cp, vs, he, hown, hr⟩ | ⟨hd', he, _⟩
          rotate_left
          · cases he
          cases he
          obtain ⟨cur, hcur, hfit, hown'⟩ := ownsRow_put (p := off) (m := cnt) hown hoff (by omega) hul
          have hst := run_storeCells_at P b (off * ei.size) e' (us.take (cnt * ei.size)) 0 cur w hcur (by simpa using hfit) hone
          generalize hw' : w.setRow b (cur.toList.take (off * ei.size) ++ us.take (cnt * ei.size) ++ cur.toList.drop (off * ei.size + (us.take (cnt * ei.size)).length)).toArray = w' at *
          have hkeep : ∀ j, j < w.heap.size → j ∉ own (.arr e' ei.size xs) (.a (some b) cap) → w'.heap[j]? = w.heap[j]? := fun j _ hj => by
            rw [← hw']; exact setRow_other w b j _ (by simpa [own] using hj)
          have hII : ∀ j, I j → w'.heap[j]? = w.heap[j]? := fun j hj => hkeep j (hs.imm j hj) fun hb' => (hs.sep j (owns_mem hS hl j hb')).1 hj
          have hs1 : w'.heap.size = w.heap.size := by rw [← hw']; simp
          have hlen' : (xs.take off ++ q.1.take cnt ++ xs.drop (off + cnt)).length = max xs.length (off + cnt) := by
            simp only [List.length_append, hxlen, hqlen, List.length_drop]
            omega
          have hor : ORel w' I L (.arr e' ei.size (xs.take off ++ q.1.take cnt ++ xs.drop (off + cnt))) (.a (some b) cap) := by
            refine .inl ⟨some b, cap, vs.take (off * ei.size) ++ us.take (cnt * ei.size) ++ vs.drop ((off + cnt) * ei.size), rfl, ?_, DRelR.mono hII (fun _ h => h) _ _ _ (((hr.take off).append hus').append (hr.drop (off + cnt)))⟩
            rw [hlen']
            exact hown'
          refine exec w' s (by simpa using hst) (hs.upd hS hl (own_arr _ _ _ _ _) hkeep hs1 hor) (Step.upd hS hl (own_arr _ _ _ _ _) hkeep hs1 (by rw [← hw']; rfl) (by rw [← hw']; rfl) (by rw [← hw']; rfl))
      · cases h
    · cases h
  · cases h

theorem evCo_out {t : TypeId} {x y : FV} {p : List Ob × Nat} (h : evCo T s t x y = some p) : p.1.length = s.S.length ∧ ∀ i, (∀ id k off n, x = .so id k off n → i ≠ id) → p.1[i]? = s.S[i]? := by
  unfold evCo at h
  simp only [Option.bind_eq_some_iff] at h
  obtain ⟨i, hi, h⟩ := h
  split at h
  · simp only [Option.bind_eq_some_iff] at h
    obtain ⟨ei, hei, q, hq, h⟩ := h
    split at h
    · split at h
      · cases h
        exact ⟨by simp, fun j hj => List.getElem?_set_ne (Ne.symm (hj _ _ _ _ rfl))⟩
      · cases h
    · cases h
  · cases h
/-- Two rows of the call's own do not overlap. -/
theorem OpOk.over (hT : TabOk P T) {fx : Operand} {f : FuncId} {fn : Func} {x y : Operand} {t tb : TypeId} {i ei : TI} {e : TypeId} {ts : Array TypeId} {o : Oper} (ho : o.op = .call { callee := .value fx, args := #[x, y], argTypes := ts }) (hfx : evX s fx = some (.fn f []))
    (hf : P.funcs[f]? = some fn) (hname : (fn.name == "runtime.NumGoroutine") = false) (hb : fn.body.isNone = true) (hn : Extern.findNext fn = none) (he : Extern.find fn = some (Extern.SlicesOverlaps.overlaps #[t, t] #[tb])) (hi : T t = some i) (hk : i.kind = .slice e) (hei : T e = some ei)
    {id1 n1 id2 k off n2 e1 k1 e2 k2 : Nat} {xs1 xs2 : List D} (hx : evX s x = some (.sl id1 n1)) (hy : evX s y = some (.so id2 k off n2)) (h1 : s.S[id1]? = some (.arr e1 k1 xs1)) (h2 : s.S[id2]? = some (.arr e2 k2 xs2)) (hne : id1 ≠ id2)
    (hn1 : 0 < xs1.length) (hn2 : 0 < n2) (hk2 : 0 < k2) (hset : setS s o.dst (.d (.bool false)) = some s') : OpOk P o s s' := fun w I L a hs => by
  have hI := (hT _ _ hi).kind
  rw [hk] at hI
  simp only [TKOk] at hI
  have hvx := hs.evX hx
  have hvy := hs.evX hy
  have hvf := hs.evX hfx
  simp only [VRel, VRelL] at hvx hvy hvf
  obtain ⟨l1, hd1, cap1, hl1, hh1, hvx⟩ := hvx
  obtain ⟨l2, hd2, c2, hl2, hvy, _, hx2⟩ := hvy
  obtain ⟨_, hvf, rfl⟩ := hvf
  rcases hx2 with h0 | ⟨b2, cap2, rfl, rfl, hcap⟩
  · omega
  rcases hs.obs _ _ _ h1 hl1 with ⟨base1, cp1, vs1, rfl, hown1, hr1⟩ | ⟨hd', rfl, rfl⟩
  rotate_left
  · simp at hn1
  rcases hs.obs _ _ _ h2 hl2 with ⟨base2, cp2, vs2, q, hown2, hr2⟩ | ⟨hd', q, _⟩
  rotate_left
  · cases q
  cases q
  simp only [Lay.hdr, Option.some.injEq, Prod.mk.injEq] at hh1
  obtain ⟨rfl, rfl⟩ := hh1
  rcases hown1.2 with ⟨_, h0⟩ | ⟨g1, cpp1, cur1, q1, _, hg1, _⟩
  · omega
  rcases hown2.2 with ⟨q, _⟩ | ⟨g2, cpp2, cur2, q2, _, hg2, _, _, hc2, _⟩
  · simp [Lay.head] at q
  cases base1 with
  | none => simp [Lay.head] at q1
  | some b1 =>
    simp only [Lay.head, Option.map_some, Value.slice.injEq, Option.some.injEq, Addr.mk.injEq, and_true, true_and] at q1 q2
    obtain ⟨rfl, rfl⟩ := q1
    obtain ⟨rfl, rfl⟩ := q2
    have hbb : b1 ≠ b2 := fun q => by
      subst q
      exact owns_apart hs.nodup h1 hl1 h2 hl2 hne b1 (by simp [own]) (by simp [own])
    have hkB : cur2.size ≠ 0 := by
      rw [hc2]
      exact Nat.ne_of_gt (Nat.mul_pos (by omega) hk2)
    obtain ⟨r1, r2, r3⟩ := hs.put (x := .d (.bool false)) (v := .bool false) (by simp only [VRel, DRel]) hset
    refine ⟨_, w, I, L, .bool false, ?_, .inl rfl, r1, ⟨by rw [r2]; exact Evo.refl _ _ _, r3, fun _ _ => rfl⟩⟩
    have hrun := Lib.run_overlaps_apart (P := P) w t tb e hI ei.size (fun w => (hT _ _ hei).sizeOf) ⟨b1, 0, none⟩ ⟨b2, off * k, none⟩ n1 cp1 n2 c2 hbb e1 e2 cur1.size cur2.size
      (by simp [World.shape?, hg1]) (by simp [World.shape?, hg2]) hkB (by simp [World.frozen?, hg1]) (by simp [World.frozen?, hg1])
    have hcf : (callFunc f #[Value.slice (some ⟨b1, 0, none⟩) n1 cp1, Value.slice (some ⟨b2, off * k, none⟩) n2 c2]).run P w = .ok (.value (.bool false)) w := by
      rw [run_callFunc_extern hf hname hb hn he, hrun]; rfl
    unfold execOp
    simp only [ho, resolve, invoke, Deferred.ofValue, Sem.run_bind, Sem.run_pure, Result.andThen_ok, List.map_toArray, List.map_cons, List.map_nil, hvx, hvy, hvf, Lay.head, Option.map_some, Array.append_empty, Array.empty_append]
    exact hcf

/-- A row's capacity, whatever it is. -/
theorem WpC.capK {c : Code} {Q : Exit → St → Prop} (t : Nat) {id n : Nat} {e k : Nat} {xs : List D} (hx : get s.env t = some (.sl id n)) (hS : s.S[id]? = some (.arr e k xs)) (hn : n ≤ xs.length)
    (h : ∀ c1, n ≤ c1 → c1 ≤ 9223372036854775807 → WpC P c { s with env := (t, .sc id n c1) :: s.env } Q) : WpC P c s Q := fun w I L a hs => by
  have hv := hs.env _ _ hx
  simp only [VRel] at hv
  obtain ⟨l, hd, cap, hl, hh, hv⟩ := hv
  have hcap := (sl_cap hs hS hl hh).1
  have hmx : cap ≤ maxLen := by
    rcases hs.obs _ _ _ hS hl with ⟨base, cp, vs, rfl, hown, _⟩ | ⟨hd', rfl, _⟩
    · simp only [Lay.hdr, Option.some.injEq, Prod.mk.injEq] at hh
      obtain ⟨rfl, rfl⟩ := hh
      rcases hown.2 with ⟨q, _⟩ | ⟨g, cpp, cur, q, _, _, _, hm, _⟩
      · simp only [Value.slice.injEq] at q; omega
      · simp only [Value.slice.injEq] at q; omega
    · simp only [Lay.hdr, Option.some.injEq, Prod.mk.injEq] at hh
      omega
  have hs' : SR w I L { s with env := (t, .sc id n cap) :: s.env } a := ⟨fun t' z hz => by
      simp only [get] at hz
      by_cases ht : t = t'
      · rw [if_pos ht] at hz
        cases hz; subst ht
        simp only [VRel]
        exact ⟨l, hd, hl, hh, hv⟩
      · rw [if_neg ht] at hz
        exact hs.env t' z hz, hs.nt, hs.len, hs.obs, hs.nodup, hs.sep, hs.imm, hs.defers⟩
  refine wp_mono (h cap (by omega) (by simpa [maxLen] using hmx) w I L a hs') fun e a1 w1 hp => ?_
  exact hp.from (s1 := { s with env := (t, .sc id n cap) :: s.env }) ⟨Evo.refl _ _ _, rfl, fun _ _ => rfl⟩
end
end Go.Proofs.Ytaobnhenjldjeaa.Pay
/- Calls of functions over abstract data; what a state may be taken for. No statement of the seed is proved here. -/
namespace Go.Proofs.Ytaobnhenjldjeaa.Pay
open Go Go.RowKit
set_option linter.unusedVariables false
set_option linter.unusedSimpArgs false

/-- A call of a function: what it hands back, and the objects behind it; the first ones are those that were handed to it. -/
def WpF (P : Program) (f : FuncId) (args : List FV) (S : List Ob) (Q : FV → List Ob → Prop) : Prop :=
  ∀ w I L vs, VRelL w I L args vs → OR w I L S → Calls P f vs.toArray w fun _e _w' => ∃ r v S' I' L', _e = .returned v ∧ Q r S' ∧ VRel _w' I' L' r v ∧ OR _w' I' L' S' ∧
    Evo w I (owns S L) _w' I' (owns S' L') ∧ S.length ≤ S'.length ∧ ∀ i : Nat, i < S.length → L'[i]? = L[i]?

theorem WpF.mono {P : Program} {f : FuncId} {args : List FV} {S : List Ob} {Q Q' : FV → List Ob → Prop} (h : WpF P f args S Q) (hq : ∀ r S, Q r S → Q' r S) : WpF P f args S Q' :=
  fun w I L vs h1 h2 => (h w I L vs h1 h2).mono fun _ _ ⟨r, v, S', I', L', e1, q, rest⟩ => ⟨r, v, S', I', L', e1, hq _ _ q, rest⟩

theorem owns_gone : ∀ (q : Nat) (l : List Lay), owns (List.replicate q .gone) l = []
  | 0, l => by simp [owns]
  | q + 1, [] => by simp [List.replicate_succ, owns]
  | q + 1, x :: l => by simp only [List.replicate_succ, owns, own, List.nil_append]; exact owns_gone q l

/-- A row that is handed back stands behind what was handed over, and nothing else is told. -/
theorem WpF.row {P : Program} {f : FuncId} {args : List FV} {S : List Ob} {e k n : Nat} {xs : List D} (h : WpF P f args S (fun r S' => ∃ j, r = .sl j n ∧ S'[j]? = some (.arr e k xs))) (m : Nat) (hm : S.length = m := by rfl) :
    WpF P f args S (fun r S' => r = .sl m n ∧ S' = List.replicate m .gone ++ [.arr e k xs]) := fun w I L vs h1 h2 => (h w I L vs h1 h2).mono fun ex w' ⟨r, v, S', I', L', e1, ⟨j, hr, hj⟩, hv, ho, he, hlen, hL⟩ => by
  subst hr; subst hm
  simp only [VRel] at hv
  obtain ⟨l, hd, cap, hl, hh, rfl⟩ := hv
  have hlen' : (L'.take S.length).length = S.length := by rw [List.length_take, ho.len]; omega
  have hown : owns (List.replicate S.length .gone ++ [.arr e k xs]) (L'.take S.length ++ [l]) = own (.arr e k xs) l := by
    rw [owns_append _ _ _ _ (by simp [hlen']), owns_gone, List.nil_append]
  have hsub : ∀ b ∈ own (.arr e k xs) l, b ∈ owns S' L' := fun b hb => owns_mem hj hl b hb
  refine ⟨.sl S.length n, _, _, I', L'.take S.length ++ [l], e1, ⟨rfl, rfl⟩, ?_, ⟨by simp [hlen'], ?_, ?_, ?_, ho.imm⟩, ⟨he.os, he.tape, he.output, he.size, he.keep, he.imm, he.immNew, ?_⟩, by simp, ?_⟩
  · simp only [VRel]
    exact ⟨l, hd, cap, by rw [List.getElem?_append_right (by omega), hlen']; simp, hh, rfl⟩
  · intro i o l' q1 q2
    by_cases hi : i < S.length
    · rw [List.getElem?_append_left (by simpa using hi), List.getElem?_replicate, if_pos hi] at q1
      cases q1; trivial
    · rw [List.getElem?_append_right (by simp; omega)] at q1
      rw [List.getElem?_append_right (by omega), hlen'] at q2
      simp only [List.length_replicate] at q1
      have hz : i - S.length = 0 := by have := (List.getElem?_eq_some_iff.1 q1).1; simp at this; omega
      rw [hz] at q1 q2
      simp at q1 q2
      subst q1; subst q2
      rcases ho.obs _ _ _ hj hl with ⟨b, c, us, rfl, q⟩ | q
      · exact .inl ⟨b, c, us, rfl, q⟩
      · exact .inr q
  · rw [hown]; exact own_nodup _ _
  · rw [hown]; exact fun b hb => ho.sep b (hsub b hb)
  · rw [hown]; exact fun b hb => he.own b (hsub b hb)
  · intro i hi
    rw [List.getElem?_append_left (by omega), List.getElem?_take, if_pos hi]
    exact hL i hi

def envFrom : Nat → List FV → List (Nat × FV)
  | _, [] => []
  | n, x :: r => (n, x) :: envFrom (n + 1) r

def retOne (T : Nat → Option TI) (s : St) : ResultVar → Option FV
  | .tmp t => get s.env t
  | .cell d t => (get s.env d).bind (evLd T s t)

def retAll (T : Nat → Option TI) (s : St) : List ResultVar → Option (List FV)
  | [] => some []
  | r :: rs => (retOne T s r).bind fun x => (retAll T s rs).map (x :: ·)

def pack : List FV → FV
  | [x] => x
  | xs => .tup xs

/-- Where a function returns. -/
def retQ (T : Nat → Option TI) (res : List ResultVar) (pin : Nat) (Q : FV → List Ob → Prop) (e : Exit) (s : St) : Prop :=
  (e = .normal ∨ e = .ret) ∧ ∃ xs, retAll T s res = some xs ∧ Q (pack xs) s.S ∧ pin ≤ s.S.length

section
variable {P : Program} {T : Nat → Option TI} {w w' : World} {I I' : Nat → Prop} {L L' : List Lay} {s s' : St} {a : Act} {all : Array Oper} {o : Oper} {rest : List Oper} {Q : Exit → St → Prop}

theorem get_envFrom : ∀ {xs : List FV} {n t : Nat} {x : FV}, get (envFrom n xs) t = some x → ∃ i, t = n + i ∧ xs[i]? = some x
  | [], n, t, x, h => by simp [envFrom, get] at h
  | y :: xs, n, t, x, h => by
    simp only [envFrom, get] at h
    by_cases hn : n = t
    · rw [if_pos hn] at h
      cases h
      exact ⟨0, by omega, rfl⟩
    · rw [if_neg hn] at h
      obtain ⟨i, h1, h2⟩ := get_envFrom h
      exact ⟨i + 1, by omega, by simpa using h2⟩

theorem retOne_ok (hT : TabOk P T) (hs : SR w I L s a) {r : ResultVar} {x : FV} (h : retOne T s r = some x) :
    ∃ v, (match r with | .tmp t => pure (a.tmps.getD t undef) | .cell d t => do loadVar t (← asAddr (a.tmps.getD d undef)) : Sem Value).run P w = .ok v w ∧ VRel w I L x v := by
  cases r with
  | tmp t => exact ⟨_, rfl, hs.env t x h⟩
  | cell d t =>
    simp only [retOne, Option.bind_eq_some_iff] at h
    obtain ⟨p, hp, hx⟩ := h
    have h1 := hs.env d p hp
    obtain ⟨v, hv0, hz⟩ := evLd_ok hT hs h1 hx
    have hv := hv0 w fun _ _ => rfl
    refine ⟨v, ?_, hz⟩
    have : ∃ ad, a.tmps.getD d undef = .pointer (some ad) := by
      cases p with
      | ref id off => simp only [VRel] at h1; obtain ⟨b, _, h⟩ := h1; exact ⟨_, h⟩
      | er id k i off => simp only [VRel] at h1; obtain ⟨b, c, _, h⟩ := h1; exact ⟨_, h⟩
      | dp cs => simp only [VRel] at h1; obtain ⟨b, o, vs, h, _⟩ := h1; exact ⟨_, h⟩
      | _ => simp [evLd] at hx
    obtain ⟨ad, had⟩ := this
    rw [had] at hv
    simp only [had, asAddr, Sem.run_bind, Sem.run_pure, Result.andThen_ok]
    simpa only [Instr.loadAt, Instr.sureAddr, Sem.run_bind, Sem.run_pure, Result.andThen_ok] using hv

theorem retAll_ok (hT : TabOk P T) (hs : SR w I L s a) : ∀ {rs : List ResultVar} {xs : List FV}, retAll T s rs = some xs →
    ∃ vs, (rs.mapM fun r => (match r with | .tmp t => pure (a.tmps.getD t undef) | .cell d t => do loadVar t (← asAddr (a.tmps.getD d undef)) : Sem Value)).run P w = .ok vs w ∧ VRelL w I L xs vs
  | [], xs, h => by simp [retAll] at h; subst h; exact ⟨[], rfl, by simp [VRelL]⟩
  | r :: rs, xs, h => by
    simp only [retAll, Option.bind_eq_some_iff, Option.map_eq_some_iff] at h
    obtain ⟨x, hx, ys, hy, rfl⟩ := h
    obtain ⟨v, hv, hz⟩ := retOne_ok hT hs hx
    obtain ⟨vs, hvs, hzs⟩ := retAll_ok hT hs hy
    refine ⟨v :: vs, ?_, by simp only [VRelL]; exact ⟨v, vs, rfl, hz, hzs⟩⟩
    rw [List.mapM_cons, Sem.run_bind, hv]
    simp only [Sem.run_bind, Sem.run_pure, Result.andThen_ok, hvs]

theorem results_run (hT : TabOk P T) (hs : SR w I L s a) {fn : Func} {xs : List FV} (h : retAll T s fn.results.toList = some xs) : ∃ v, (results fn a.tmps).run P w = .ok v w ∧ VRel w I L (pack xs) v := by
  obtain ⟨vs, hvs, hz⟩ := retAll_ok hT hs h
  have hr : (results fn a.tmps).run P w = .ok (if h : vs.toArray.size = 1 then vs.toArray[0] else .tuple vs.toArray) w := by
    unfold results
    rw [Array.mapM_eq_mapM_toList]
    simp only [Sem.run_bind, Sem.run_map, Sem.run_pure]
    exact congrArg (fun r : Result (List Value) => (r.andThen (fun a w' => Result.ok a.toArray w')).andThen (fun a w' => Result.ok (if h : a.size = 1 then a[0] else Value.tuple a) w')) hvs
  refine ⟨_, hr, ?_⟩
  have hl := hz.length
  cases xs with
  | nil => 
    have : vs = [] := List.eq_nil_of_length_eq_zero (by simpa using hl)
    subst this
    simp only [pack, VRel]
    exact ⟨[], by simp, hz⟩
  | cons x xs =>
    cases xs with
    | nil =>
      simp only [VRelL] at hz
      obtain ⟨v, r, rfl, h1, rfl⟩ := hz
      simpa [pack] using h1
    | cons y ys =>
      simp only [pack, VRel]
      refine ⟨vs, ?_, hz⟩
      simp at hl
      rw [dif_neg (by simp; omega)]

/-- A function's own text is gone through. -/
theorem WpF.enter (hT : TabOk P T) {f : FuncId} {fn : Func} {c : Code} {args : List FV} {S : List Ob} {Q : FV → List Ob → Prop} (hf : P.funcs[f]? = some fn) (hb : fn.body = some c) (hn : args.length ≤ fn.ntmps)
    (h : WpC P c ⟨envFrom 0 args, S, fn.ntmps, S.length⟩ (retQ T fn.results.toList S.length Q)) : WpF P f args S Q := fun w I L vs ha hO => by
  have hvl := ha.length
  have hs : SR w I L ⟨envFrom 0 args, S, fn.ntmps, S.length⟩ { tmps := vs.toArray ++ Array.replicate (fn.ntmps - vs.toArray.size) undef, defers := [] } := by
    refine ⟨fun t x hx => ?_, by simp; omega, hO.len, hO.obs, hO.nodup, hO.sep, hO.imm, rfl⟩
    obtain ⟨i, rfl, hi⟩ := get_envFrom hx
    obtain ⟨v, hv, hz⟩ := ha.get i x hi
    have hlt : i < vs.length := (List.getElem?_eq_some_iff.1 hv).1
    rw [Nat.zero_add, Array.getD_eq_getD_getElem?, Array.getElem?_append_left (by simpa using hlt)]
    simpa [hv] using hz
  refine calls_of_wp hf hb (wp_mono (h w I L _ hs) fun e a' w' p => ?_)
  obtain ⟨s', I', L', ⟨he, xs, hxs, hq, hpin⟩, hs', ⟨st, sp, sl⟩⟩ := p
  obtain ⟨v, hv, hz⟩ := results_run hT hs' hxs
  rcases he with rfl | rfl
  · exact ⟨hs'.defers, v, hv, _, v, s'.S, I', L', rfl, hq, hz, hs'.or, st, hpin, sl⟩
  · exact ⟨hs'.defers, v, hv, _, v, s'.S, I', L', rfl, hq, hz, hs'.or, st, hpin, sl⟩

/-! ### What does not lead to objects -/

/-- A variable's cell, read as data. -/
def cellD (S : List Ob) : FV → Option D
  | .d x => some x
  | .sl id n => match S[id]? with
    | some (.frz k xs) => if n ≤ xs.length then some (.list k (xs.take n)) else none
    | some (.arr _ k xs) => if n ≤ xs.length then some (.list k (xs.take n)) else none
    | _ => none
  | _ => none
def cellsD (S : List Ob) : List FV → Option (List D)
  | [] => some []
  | x :: r => (cellD S x).bind fun y => (cellsD S r).map (y :: ·)

mutual
def viewF (lend : Bool) (S : List Ob) : FV → Option FV
  | .d x => some (.d x)
  | .ref id off => match S[id]? with
    | some (.cells _ cs) => if lend = true then (cellsD S cs).map fun ds => .dp (ds.drop off) else none
    | _ => none
  | .sl id n => match S[id]? with
    | some (.frz k xs) => if n ≤ xs.length then some (.d (.list k (xs.take n))) else none
    | some (.arr _ k xs) => if lend = true ∧ n ≤ xs.length then some (.d (.list k (xs.take n))) else none
    | _ => none
  | .mp id => match S[id]? with
    | some (.fmap ks es) => some (.d (.map ks es))
    | some (.map ks es) => if lend = true then some (.d (.map ks es)) else none
    | _ => none
  | .dp cs => some (.dp cs)
  | .agg cs => (viewFs lend S cs).map mkV
  | .fn f cs => (viewFs lend S cs).map (.fn f)
  | .tup cs => (viewFs lend S cs).map .tup
  | _ => none
def viewFs (lend : Bool) (S : List Ob) : List FV → Option (List FV)
  | [] => some []
  | x :: r => (viewF lend S x).bind fun y => (viewFs lend S r).map (y :: ·)
end

/-- What is immutable, with what is lent. -/
def lentI (I : Nat → Prop) (S : List Ob) (L : List Lay) (b : Nat) : Prop := I b ∨ b ∈ owns S L

theorem frz_list (hs : SR w I L s a) {id k n : Nat} {xs : List D} {v : Value} (hS : s.S[id]? = some (.frz k xs)) (hn : n ≤ xs.length) (hv : VRel w I L (.sl id n) v) : DRel w I (.list k (xs.take n)) v := by
  simp only [VRel] at hv
  obtain ⟨l, hd, cap, hl, hh, rfl⟩ := hv
  obtain ⟨hd', cp, hh', hd1⟩ := hs.obs _ _ _ hS hl
  rw [hh] at hh'
  simp only [Option.some.injEq, Prod.mk.injEq] at hh'
  obtain ⟨rfl, rfl⟩ := hh'
  simp only [DRel] at hd1 ⊢
  obtain ⟨base, c, he, hle, hx⟩ := hd1
  simp only [Value.slice.injEq, true_and] at he
  obtain ⟨rfl, rfl⟩ := he
  have hlen : (xs.take n).length = n := by rw [List.length_take]; omega
  refine ⟨hd, cap, by rw [hlen], by omega, ?_⟩
  rcases hx with hx | ⟨b, o, vs, rfl, hb, hc, hr⟩
  · exact .inl (by subst hx; simp)
  · exact .inr ⟨b, o, vs.take (n * k), rfl, hb, cellsAt_take hc _, hr.take n⟩

theorem arr_list (hs : SR w I L s a) {id k n : Nat} {e : TypeId} {xs : List D} {v : Value} (hS : s.S[id]? = some (.arr e k xs)) (hn : n ≤ xs.length) (hv : VRel w I L (.sl id n) v) : DRel w (lentI I s.S L) (.list k (xs.take n)) v := by
  simp only [VRel] at hv
  obtain ⟨l, hd, cap, hl, hh, rfl⟩ := hv
  have hcap := (sl_cap hs hS hl hh).1
  have hlen : (xs.take n).length = n := by rw [List.length_take]; omega
  simp only [DRel]
  refine ⟨hd, cap, by rw [hlen], by omega, ?_⟩
  rcases hs.obs _ _ _ hS hl with ⟨base, cp, vs, rfl, hown, hr⟩ | ⟨hd', rfl, rfl⟩
  · simp only [Lay.hdr, Option.some.injEq, Prod.mk.injEq] at hh
    obtain ⟨rfl, rfl⟩ := hh
    by_cases h0 : 0 < vs.length
    · obtain ⟨b, rfl, hc⟩ := ownsRow_cells hown h0
      exact .inr ⟨b, 0, vs.take (n * k), rfl, .inr (owns_mem hS hl b (by simp [own])), cellsAt_take hc _, DRelR.mono (fun _ _ => rfl) (fun b hb => .inl hb) _ _ _ (hr.take n)⟩
    · by_cases hx0 : xs.take n = []
      · exact .inl hx0
      · -- elements of no cells
        cases base with
        | none =>
          rcases hown.2 with ⟨_, h2⟩ | ⟨g, _, _, he, _⟩
          · exact absurd (by rw [List.eq_nil_of_length_eq_zero h2]; simp) hx0
          · simp [Lay.head] at he
        | some b =>
          have hv0 : vs = [] := List.eq_nil_of_length_eq_zero (by omega)
          subst hv0
          exact .inr ⟨b, 0, [], rfl, .inr (owns_mem hS hl b (by simp [own])), fun j v hv => by simp at hv, by simpa using DRelR.mono (fun _ _ => rfl) (fun b hb => .inl hb) _ _ _ (hr.take n)⟩
  · exact .inl (by simp)

mutual
theorem viewF_ok (hs : SR w I L s a) (L0 : List Lay) : ∀ {x y : FV} {v : Value}, VRel w I L x v → viewF false s.S x = some y → VRel w I L0 y v
  | .d x, y, v, hv, h => by simp [viewF] at h; subst h; simpa only [VRel] using hv
  | .sl id n, y, v, hv, h => by
    simp only [viewF] at h
    split at h
    · rename_i k xs hS
      split at h
      · rename_i hn; cases h; simp only [VRel]; exact frz_list hs hS hn hv
      · cases h
    · simp at h
    · cases h
  | .mp id, y, v, hv, h => by
    simp only [viewF] at h
    split at h
    · rename_i ks es hS
      cases h
      simp only [VRel] at hv
      obtain ⟨r, hl, rfl⟩ := hv
      obtain ⟨r', he, hd⟩ := hs.obs _ _ _ hS hl
      cases he
      simpa only [VRel] using hd
    · simp at h
    · cases h
  | .dp cs, y, v, hv, h => by simp [viewF] at h; subst h; simpa only [VRel] using hv
  | .agg cs, y, v, hv, h => by
    simp only [viewF, Option.map_eq_some_iff] at h
    obtain ⟨ys, hy, rfl⟩ := h
    simp only [VRel] at hv
    obtain ⟨vs, rfl, ho, hr⟩ := hv
    exact mkV_ok (viewFs_ok hs L0 hr hy) ho
  | .fn f cs, y, v, hv, h => by
    simp only [viewF, Option.map_eq_some_iff] at h
    obtain ⟨ys, hy, rfl⟩ := h
    simp only [VRel] at hv ⊢
    obtain ⟨vs, rfl, hr⟩ := hv
    exact ⟨vs, rfl, viewFs_ok hs L0 hr hy⟩
  | .tup cs, y, v, hv, h => by
    simp only [viewF, Option.map_eq_some_iff] at h
    obtain ⟨ys, hy, rfl⟩ := h
    simp only [VRel] at hv ⊢
    obtain ⟨vs, rfl, hr⟩ := hv
    exact ⟨vs, rfl, viewFs_ok hs L0 hr hy⟩
  | .ref _ _, y, v, hv, h => by
    simp only [viewF] at h
    split at h
    · simp at h
    · cases h
  | .er _ _ _ _, y, v, hv, h => by simp [viewF] at h
  | .so _ _ _ _, y, v, hv, h => by simp [viewF] at h
  | .sc _ _ _, y, v, hv, h => by simp [viewF] at h
  | .dead, y, v, hv, h => by simp [viewF] at h
theorem viewFs_ok (hs : SR w I L s a) (L0 : List Lay) : ∀ {xs ys : List FV} {vs : List Value}, VRelL w I L xs vs → viewFs false s.S xs = some ys → VRelL w I L0 ys vs
  | [], ys, vs, hv, h => by simp [viewFs] at h; subst h; simpa [VRelL] using hv
  | x :: xs, ys, vs, hv, h => by
    simp only [viewFs, Option.bind_eq_some_iff, Option.map_eq_some_iff] at h
    obtain ⟨y, hy, zs, hz, rfl⟩ := h
    simp only [VRelL] at hv ⊢
    obtain ⟨v, r, rfl, h1, h2⟩ := hv
    exact ⟨v, r, rfl, viewF_ok hs L0 h1 hy, viewFs_ok hs L0 h2 hz⟩
end

theorem cellD_ok (hs : SR w I L s a) {x : FV} {y : D} {v : Value} (hv : VRel w I L x v) (h : cellD s.S x = some y) : DRel w (lentI I s.S L) y v := by
  unfold cellD at h
  split at h
  · cases h; simp only [VRel] at hv; exact DRel.mono (fun _ _ => rfl) (fun b hb => .inl hb) _ _ hv
  · split at h
    · rename_i k xs hS
      split at h
      · rename_i hn; cases h; exact DRel.mono (fun _ _ => rfl) (fun b hb => .inl hb) _ _ (frz_list hs hS hn hv)
      · cases h
    · rename_i e k xs hS
      split at h
      · rename_i hn; cases h; exact arr_list hs hS hn hv
      · cases h
    · cases h
  · cases h
theorem cellsD_ok (hs : SR w I L s a) : ∀ {xs : List FV} {ys : List D} {vs : List Value}, VRelL w I L xs vs → cellsD s.S xs = some ys → DRelL w (lentI I s.S L) ys vs
  | [], ys, vs, hv, h => by simp [cellsD] at h; subst h; simpa [VRelL, DRelL] using hv
  | x :: r, ys, vs, hv, h => by
    simp only [cellsD, Option.bind_eq_some_iff, Option.map_eq_some_iff] at h
    obtain ⟨y, hy, zs, hz, rfl⟩ := h
    simp only [VRelL] at hv
    obtain ⟨v, u, rfl, h1, h2⟩ := hv
    simp only [DRelL]
    exact ⟨v, u, rfl, cellD_ok hs h1 hy, cellsD_ok hs h2 hz⟩

mutual
theorem viewL_ok (hs : SR w I L s a) (L0 : List Lay) : ∀ {x y : FV} {v : Value}, VRel w I L x v → viewF true s.S x = some y → VRel w (lentI I s.S L) L0 y v
  | .d x, y, v, hv, h => by simp [viewF] at h; subst h; simp only [VRel] at hv ⊢; exact DRel.mono (fun _ _ => rfl) (fun b hb => .inl hb) _ _ hv
  | .sl id n, y, v, hv, h => by
    simp only [viewF] at h
    split at h
    · rename_i k xs hS
      split at h
      · rename_i hn; cases h; simp only [VRel]; exact DRel.mono (fun _ _ => rfl) (fun b hb => .inl hb) _ _ (frz_list hs hS hn hv)
      · cases h
    · rename_i e k xs hS
      split at h
      · rename_i hn; cases h; simp only [VRel]; exact arr_list hs hS hn.2 hv
      · cases h
    · cases h
  | .mp id, y, v, hv, h => by
    simp only [viewF] at h
    split at h
    · rename_i ks es hS
      cases h
      simp only [VRel] at hv
      obtain ⟨r, hl, rfl⟩ := hv
      obtain ⟨r', he, hd⟩ := hs.obs _ _ _ hS hl
      cases he
      simp only [VRel]
      exact DRel.mono (fun _ _ => rfl) (fun b hb => .inl hb) _ _ hd
    · rename_i ks es hS
      simp only [if_true] at h
      cases h
      simp only [VRel] at hv
      obtain ⟨r, hl, rfl⟩ := hv
      obtain ⟨r', ents, clock, he, hr, h1, h2⟩ := hs.obs _ _ _ hS hl
      cases he
      simp only [VRel, DRel]
      exact ⟨r, ents, clock, rfl, .inr (owns_mem hS hl r (by simp [own])), hr, DRelL.mono (fun _ _ => rfl) (fun b hb => .inl hb) _ _ h1, DRelL.mono (fun _ _ => rfl) (fun b hb => .inl hb) _ _ h2⟩
    · cases h
  | .dp cs, y, v, hv, h => by
    simp [viewF] at h; subst h
    simp only [VRel] at hv ⊢
    obtain ⟨b, o, vs, h1, h2, h3, h4, h5⟩ := hv
    exact ⟨b, o, vs, h1, .inl h2, h3, h4, DRelL.mono (fun _ _ => rfl) (fun b hb => .inl hb) _ _ h5⟩
  | .agg cs, y, v, hv, h => by
    simp only [viewF, Option.map_eq_some_iff] at h
    obtain ⟨ys, hy, rfl⟩ := h
    simp only [VRel] at hv
    obtain ⟨vs, rfl, ho, hr⟩ := hv
    exact mkV_ok (viewLs_ok hs L0 hr hy) ho
  | .fn f cs, y, v, hv, h => by
    simp only [viewF, Option.map_eq_some_iff] at h
    obtain ⟨ys, hy, rfl⟩ := h
    simp only [VRel] at hv ⊢
    obtain ⟨vs, rfl, hr⟩ := hv
    exact ⟨vs, rfl, viewLs_ok hs L0 hr hy⟩
  | .tup cs, y, v, hv, h => by
    simp only [viewF, Option.map_eq_some_iff] at h
    obtain ⟨ys, hy, rfl⟩ := h
    simp only [VRel] at hv ⊢
    obtain ⟨vs, rfl, hr⟩ := hv
    exact ⟨vs, rfl, viewLs_ok hs L0 hr hy⟩
  | .ref id off, y, v, hv, h => by
    simp only [viewF] at h
    split at h
    · rename_i t cs hS
      simp only [if_true, Option.map_eq_some_iff] at h
      obtain ⟨ds, hds, rfl⟩ := h
      simp only [VRel] at hv ⊢
      obtain ⟨b, hl, rfl⟩ := hv
      obtain ⟨b', vs, he, hb, ho, hr⟩ := hs.obs _ _ _ hS hl
      cases he
      have hc := cellsAt_drop (cellsAt_block hb) off
      simp only [Nat.zero_add] at hc
      exact ⟨b, off, vs.drop off, rfl, .inr (owns_mem hS hl b (by simp [own])), hc, ho.drop off, (cellsD_ok hs hr hds).drop off⟩
    · cases h
  | .er _ _ _ _, y, v, hv, h => by simp [viewF] at h
  | .so _ _ _ _, y, v, hv, h => by simp [viewF] at h
  | .sc _ _ _, y, v, hv, h => by simp [viewF] at h
  | .dead, y, v, hv, h => by simp [viewF] at h
theorem viewLs_ok (hs : SR w I L s a) (L0 : List Lay) : ∀ {xs ys : List FV} {vs : List Value}, VRelL w I L xs vs → viewFs true s.S xs = some ys → VRelL w (lentI I s.S L) L0 ys vs
  | [], ys, vs, hv, h => by simp [viewFs] at h; subst h; simpa [VRelL] using hv
  | x :: xs, ys, vs, hv, h => by
    simp only [viewFs, Option.bind_eq_some_iff, Option.map_eq_some_iff] at h
    obtain ⟨y, hy, zs, hz, rfl⟩ := h
    simp only [VRelL] at hv ⊢
    obtain ⟨v, r, rfl, h1, h2⟩ := hv
    exact ⟨v, r, rfl, viewL_ok hs L0 h1 hy, viewLs_ok hs L0 h2 hz⟩
end

end
end Go.Proofs.Ytaobnhenjldjeaa.Pay
/- The rule of a call. No statement of the seed is proved here. -/
namespace Go.Proofs.Ytaobnhenjldjeaa.Pay
open Go Go.RowKit
set_option linter.unusedVariables false
set_option linter.unusedSimpArgs false

/-! ### Other numbers for objects -/
mutual
def ren (σ : Nat → Nat) : FV → FV
  | .d x => .d x
  | .ref id off => .ref (σ id) off
  | .sl id n => .sl (σ id) n
  | .er id k i off => .er (σ id) k i off
  | .dp cs => .dp cs
  | .agg cs => .agg (rens σ cs)
  | .fn f cs => .fn f (rens σ cs)
  | .tup cs => .tup (rens σ cs)
  | .mp id => .mp (σ id)
  | .so id k off n => .so (σ id) k off n
  | .sc id n c => .sc (σ id) n c
  | .dead => .dead
def rens (σ : Nat → Nat) : List FV → List FV
  | [] => []
  | x :: r => ren σ x :: rens σ r
end

def renO (σ : Nat → Nat) : Ob → Ob
  | .cells t cs => .cells t (rens σ cs)
  | o => o

def renOs (σ : Nat → Nat) : List Ob → List Ob
  | [] => []
  | o :: r => renO σ o :: renOs σ r

def setAll : List Ob → List Nat → List Ob → List Ob
  | S, i :: p, o :: r => setAll (S.set i o) p r
  | S, _, _ => S

section
variable {P : Program} {T : Nat → Option TI} {w w' : World} {I I' : Nat → Prop} {L L' : List Lay} {s s' : St} {a : Act} {all : Array Oper} {o : Oper} {rest : List Oper} {Q : Exit → St → Prop}

mutual
theorem VRel.ren {σ : Nat → Nat} (h : ∀ (j : Nat) (l : Lay), L[j]? = some l → L'[σ j]? = some l) : ∀ {x : FV} {v : Value}, VRel w I L x v → VRel w I L' (ren σ x) v
  | .d x, v, hv => by simpa only [Pay.ren, VRel] using hv
  | .ref id off, v, hv => by simp only [Pay.ren, VRel] at hv ⊢; obtain ⟨b, h1, h2⟩ := hv; exact ⟨b, h _ _ h1, h2⟩
  | .sl id n, v, hv => by simp only [Pay.ren, VRel] at hv ⊢; obtain ⟨l, hd, c, h1, h2⟩ := hv; exact ⟨l, hd, c, h _ _ h1, h2⟩
  | .er id k i off, v, hv => by simp only [Pay.ren, VRel] at hv ⊢; obtain ⟨b, c, h1, h2⟩ := hv; exact ⟨b, c, h _ _ h1, h2⟩
  | .dp cs, v, hv => by simpa only [Pay.ren, VRel] using hv
  | .agg cs, v, hv => by simp only [Pay.ren, VRel] at hv ⊢; obtain ⟨vs, h1, h2, h3⟩ := hv; exact ⟨vs, h1, h2, VRelL.ren h h3⟩
  | .fn f cs, v, hv => by simp only [Pay.ren, VRel] at hv ⊢; obtain ⟨vs, h1, h3⟩ := hv; exact ⟨vs, h1, VRelL.ren h h3⟩
  | .tup cs, v, hv => by simp only [Pay.ren, VRel] at hv ⊢; obtain ⟨vs, h1, h3⟩ := hv; exact ⟨vs, h1, VRelL.ren h h3⟩
  | .mp id, v, hv => by simp only [Pay.ren, VRel] at hv ⊢; obtain ⟨r, h1, h2⟩ := hv; exact ⟨r, h _ _ h1, h2⟩
  | .so id k off n, v, hv => by simp only [Pay.ren, VRel] at hv ⊢; obtain ⟨l, hd, c, h1, h2⟩ := hv; exact ⟨l, hd, c, h _ _ h1, h2⟩
  | .sc id n c, v, hv => by simp only [Pay.ren, VRel] at hv ⊢; obtain ⟨l, hd, h1, h2⟩ := hv; exact ⟨l, hd, h _ _ h1, h2⟩
  | .dead, v, hv => by simp only [Pay.ren, VRel]
theorem VRelL.ren {σ : Nat → Nat} (h : ∀ (j : Nat) (l : Lay), L[j]? = some l → L'[σ j]? = some l) : ∀ {xs : List FV} {vs : List Value}, VRelL w I L xs vs → VRelL w I L' (rens σ xs) vs
  | [], vs, hv => by simpa only [rens, VRelL] using hv
  | x :: xs, vs, hv => by simp only [rens, VRelL] at hv ⊢; obtain ⟨v, r, h1, h2, h3⟩ := hv; exact ⟨v, r, h1, VRel.ren h h2, VRelL.ren h h3⟩
end

mutual
theorem VRel.back {σ : Nat → Nat} (h : ∀ (j : Nat) (l : Lay), L[σ j]? = some l → L'[j]? = some l) : ∀ {x : FV} {v : Value}, VRel w I L (ren σ x) v → VRel w I L' x v
  | .d x, v, hv => by simpa only [Pay.ren, VRel] using hv
  | .ref id off, v, hv => by simp only [Pay.ren, VRel] at hv ⊢; obtain ⟨b, h1, h2⟩ := hv; exact ⟨b, h _ _ h1, h2⟩
  | .sl id n, v, hv => by simp only [Pay.ren, VRel] at hv ⊢; obtain ⟨l, hd, c, h1, h2⟩ := hv; exact ⟨l, hd, c, h _ _ h1, h2⟩
  | .er id k i off, v, hv => by simp only [Pay.ren, VRel] at hv ⊢; obtain ⟨b, c, h1, h2⟩ := hv; exact ⟨b, c, h _ _ h1, h2⟩
  | .dp cs, v, hv => by simpa only [Pay.ren, VRel] using hv
  | .agg cs, v, hv => by simp only [Pay.ren, VRel] at hv ⊢; obtain ⟨vs, h1, h2, h3⟩ := hv; exact ⟨vs, h1, h2, VRelL.back h h3⟩
  | .fn f cs, v, hv => by simp only [Pay.ren, VRel] at hv ⊢; obtain ⟨vs, h1, h3⟩ := hv; exact ⟨vs, h1, VRelL.back h h3⟩
  | .tup cs, v, hv => by simp only [Pay.ren, VRel] at hv ⊢; obtain ⟨vs, h1, h3⟩ := hv; exact ⟨vs, h1, VRelL.back h h3⟩
  | .mp id, v, hv => by simp only [Pay.ren, VRel] at hv ⊢; obtain ⟨r, h1, h2⟩ := hv; exact ⟨r, h _ _ h1, h2⟩
  | .so id k off n, v, hv => by simp only [Pay.ren, VRel] at hv ⊢; obtain ⟨l, hd, c, h1, h2⟩ := hv; exact ⟨l, hd, c, h _ _ h1, h2⟩
  | .sc id n c, v, hv => by simp only [Pay.ren, VRel] at hv ⊢; obtain ⟨l, hd, h1, h2⟩ := hv; exact ⟨l, hd, h _ _ h1, h2⟩
  | .dead, v, hv => by simp only [VRel]
theorem VRelL.back {σ : Nat → Nat} (h : ∀ (j : Nat) (l : Lay), L[σ j]? = some l → L'[j]? = some l) : ∀ {xs : List FV} {vs : List Value}, VRelL w I L (rens σ xs) vs → VRelL w I L' xs vs
  | [], vs, hv => by simpa only [rens, VRelL] using hv
  | x :: xs, vs, hv => by simp only [rens, VRelL] at hv ⊢; obtain ⟨v, r, h1, h2, h3⟩ := hv; exact ⟨v, r, h1, VRel.back h h2, VRelL.back h h3⟩
end

theorem ORel.ren {σ : Nat → Nat} (h : ∀ (j : Nat) (l : Lay), L[j]? = some l → L'[σ j]? = some l) {o : Ob} {l : Lay} (ho : ORel w I L o l) : ORel w I L' (renO σ o) l := by
  cases o with
  | cells t cs => obtain ⟨b, vs, h1, h2, h3, h4⟩ := ho; exact ⟨b, vs, h1, h2, h3, VRelL.ren h h4⟩
  | arr e k xs => exact ho
  | frz k xs => exact ho
  | map ks es => exact ho
  | fmap ks es => exact ho
  | gone => trivial

theorem ORel.back {σ : Nat → Nat} (h : ∀ (j : Nat) (l : Lay), L[σ j]? = some l → L'[j]? = some l) {o : Ob} {l : Lay} (ho : ORel w I L (renO σ o) l) : ORel w I L' o l := by
  cases o with
  | cells t cs => obtain ⟨b, vs, h1, h2, h3, h4⟩ := ho; exact ⟨b, vs, h1, h2, h3, VRelL.back h h4⟩
  | arr e k xs => exact ho
  | frz k xs => exact ho
  | map ks es => exact ho
  | fmap ks es => exact ho
  | gone => trivial

theorem own_ren (σ : Nat → Nat) (o : Ob) (l : Lay) : own (renO σ o) l = own o l := by cases o <;> cases l <;> rfl

theorem renOs_get (σ : Nat → Nat) : ∀ (S : List Ob) (i : Nat), (renOs σ S)[i]? = (S[i]?).map (renO σ)
  | [], i => by simp [renOs]
  | x :: S, 0 => by simp [renOs]
  | x :: S, i + 1 => by simp [renOs, renOs_get σ S i]
theorem renOs_length (σ : Nat → Nat) : ∀ (S : List Ob), (renOs σ S).length = S.length
  | [] => rfl
  | x :: S => by simp [renOs, renOs_length σ S]

theorem setAll_length : ∀ (S : List Ob) (p : List Nat) (r : List Ob), (setAll S p r).length = S.length
  | S, [], _ => by simp [setAll]
  | S, i :: p, [] => by simp [setAll]
  | S, i :: p, o :: r => by rw [setAll, setAll_length]; simp

theorem setAll_other : ∀ (p : List Nat) (S : List Ob) (r : List Ob) (i : Nat), i ∉ p → (setAll S p r)[i]? = S[i]?
  | [], S, _, i, _ => by simp [setAll]
  | j :: p, S, [], i, _ => by simp [setAll]
  | j :: p, S, o :: r, i, h => by
    simp only [List.mem_cons, not_or] at h
    rw [setAll, setAll_other p _ r i h.2, List.getElem?_set_ne (Ne.symm h.1)]

theorem setAll_at : ∀ (p : List Nat) (S : List Ob) (r : List Ob) (j i : Nat) (o : Ob), p.Nodup → p[j]? = some i → r[j]? = some o → i < S.length → (setAll S p r)[i]? = some o
  | [], S, r, j, i, o, _, h, _, _ => by simp at h
  | q :: p, S, [], j, i, o, _, _, h, _ => by simp at h
  | q :: p, S, x :: r, j, i, o, hn, h1, h2, hi => by
    simp only [List.nodup_cons] at hn
    cases j with
    | zero =>
      simp at h1 h2; subst h1; subst h2
      rw [setAll, setAll_other p _ r q hn.1, List.getElem?_set_self hi]
    | succ j =>
      rw [setAll]
      exact setAll_at p _ r j i o hn.2 (by simpa using h1) (by simpa using h2) (by simpa using hi)

/-- A function that can be called in the plain way. -/
structure Callable (P : Program) (g : FuncId) : Prop where
  ex : ∃ fn, P.funcs[g]? = some fn ∧ (fn.name == "runtime.NumGoroutine") = false ∧ fn.body.isNone = false

theorem run_call {g : FuncId} (hc : Callable P g) {fx : Operand} {args : Array Operand} {ts : Array TypeId} (ho : o.op = .call { callee := .value fx, args, argTypes := ts }) {caps : List Value}
    (hf : a.eval fx = .func (.func g) #[] caps.toArray) : (execOp a.eval o).run P w = .ok (.enter g (args.toList.map a.eval ++ caps).toArray) w := by
  obtain ⟨fn, h1, h2, h3⟩ := hc.ex
  unfold execOp
  simp only [ho, resolve, Deferred.ofValue, hf, Sem.run_bind, Sem.run_pure, Result.andThen_ok, invoke, callFunc, run_program, h1, h2, h3, Bool.false_eq_true, if_false]
  congr 2
  apply Array.ext'
  simp

/-- How objects of the caller become those of the callee. -/
def σ0 (n : Nat) (perm : List Nat) (j : Nat) : Nat := perm.getD j n
/-- And back: new ones behind the caller's. -/
def σ1 (n : Nat) (perm : List Nat) (j : Nat) : Nat := if j < perm.length then perm.getD j n else n + (j - perm.length)

/-- An argument is handed over as it is, or as data. -/
def ArgOk (S : List Ob) (perm : List Nat) (x c : FV) : Prop := x = ren (σ0 S.length perm) c ∨ viewF false S x = some c

def ArgsOk (S : List Ob) (perm : List Nat) : List FV → List FV → Prop
  | [], [] => True
  | x :: xs, c :: cs => ArgOk S perm x c ∧ ArgsOk S perm xs cs
  | _, _ => False

def PassOk (S : List Ob) (perm : List Nat) (cS : List Ob) : Prop := cS.length = perm.length ∧ ∀ (j i : Nat) (c : Ob), perm[j]? = some i → cS[j]? = some c → S[i]? = some (renO (σ0 S.length perm) c)

theorem args_ok (hs : SR w I L s a) {perm : List Nat} {Lc : List Lay} (hL : ∀ (j : Nat) (l : Lay), L[σ0 s.S.length perm j]? = some l → Lc[j]? = some l) : ∀ {xs cs : List FV} {vs : List Value}, ArgsOk s.S perm xs cs → VRelL w I L xs vs → VRelL w I Lc cs vs
  | [], [], vs, _, h => by simpa only [VRelL] using h
  | x :: xs, c :: cs, vs, ha, h => by
    simp only [VRelL] at h ⊢
    obtain ⟨v, r, h1, h2, h3⟩ := h
    refine ⟨v, r, h1, ?_, args_ok hs hL ha.2 h3⟩
    rcases ha.1 with rfl | h4
    · exact VRel.back hL h2
    · exact viewF_ok hs Lc h2 h4
  | [], _ :: _, vs, ha, _ => ha.elim
  | _ :: _, [], vs, ha, _ => ha.elim

theorem WpO.call {fx : Operand} {args : Array Operand} {ts : Array TypeId} {g : FuncId} {caps xs : List FV} (hw : wantS all s o = some true) (ho : o.op = .call { callee := .value fx, args, argTypes := ts })
    (hf : evX s fx = some (.fn g caps)) (hx : evXs s args.toList = some xs) (hc : Callable P g) (hp : s.pin ≤ s.S.length)
    (perm : List Nat) (hn : perm.Nodup) (hlt : ∀ i ∈ perm, i < s.S.length) {cargs : List FV} {cS : List Ob} (ha : ArgsOk s.S perm (xs ++ caps) cargs) (hpass : PassOk s.S perm cS)
    {R : FV → List Ob → Prop} (hcall : WpF P g cargs cS R)
    (hrest : ∀ r S1, R r S1 → ∃ s', setS { s with S := setAll s.S perm (renOs (σ1 s.S.length perm) (S1.take perm.length)) ++ renOs (σ1 s.S.length perm) (S1.drop perm.length) } o.dst (ren (σ1 s.S.length perm) r) = some s' ∧ WpO P all rest s' Q) :
    WpO P all (o :: rest) s Q := fun w I L a hs => by
  unfold wpList
  rw [if_pos (hs.want hw)]
  refine .inl ?_
  have hfv := hs.evX hf
  simp only [VRel] at hfv
  obtain ⟨cvs, hfv, hcv⟩ := hfv
  unfold Oper.wp
  rw [run_call hc ho hfv, Oper.upon_enter]
  obtain ⟨hlen, hpo⟩ := hpass
  -- the callee's layout
  have hLc : ∃ Lc : List Lay, Lc.length = perm.length ∧ ∀ (j i : Nat), perm[j]? = some i → Lc[j]? = L[i]? := by
    refine ⟨perm.map fun i => L.getD i (.m 0), by simp, fun j i hj => ?_⟩
    have hi : i < L.length := by rw [hs.len]; exact hlt i (List.mem_of_getElem? hj)
    simp [hj, List.getD, List.getElem?_eq_getElem hi]
  obtain ⟨Lc, hLl, hLc⟩ := hLc
  have hback : ∀ (j : Nat) (l : Lay), L[σ0 s.S.length perm j]? = some l → Lc[j]? = some l := by
    intro j l hl
    by_cases hj : j < perm.length
    · rw [hLc j perm[j] (List.getElem?_eq_getElem hj)]
      simpa [σ0, List.getD, List.getElem?_eq_getElem hj] using hl
    · have : L.length ≤ s.S.length := by rw [hs.len]; exact Nat.le_refl _
      simp [σ0, List.getD, List.getElem?_eq_none (Nat.le_of_not_lt hj), List.getElem?_eq_none this] at hl
  have hcS : ∀ (j : Nat) (c : Ob), cS[j]? = some c → ∃ i, perm[j]? = some i ∧ s.S[i]? = some (renO (σ0 s.S.length perm) c) := by
    intro j c hj
    have hjl : j < perm.length := by rw [← hlen]; exact (List.getElem?_eq_some_iff.1 hj).1
    exact ⟨perm[j], List.getElem?_eq_getElem hjl, hpo j _ c (List.getElem?_eq_getElem hjl) hj⟩
  have hinj : ∀ (j j' i : Nat), perm[j]? = some i → perm[j']? = some i → j = j' := by
    intro j j' i h1 h2
    have hj := (List.getElem?_eq_some_iff.1 h1).1
    exact (List.getElem?_inj hj hn).1 (h1.trans h2.symm)
  have hmem : ∀ b ∈ owns cS Lc, b ∈ owns s.S L := by
    intro b hb
    obtain ⟨j, c, l, h1, h2, h3⟩ := owns_of_mem hb
    obtain ⟨i, h4, h5⟩ := hcS j c h1
    exact owns_mem h5 (by rw [← hLc j i h4]; exact h2) b (by rw [own_ren]; exact h3)
  have hOR : OR w I Lc cS := by
    refine ⟨by rw [hLl, hlen], fun j c l h1 h2 => ?_, owns_nodup fun j j' c c' l l' hne h1 h2 h3 h4 b hb hb' => ?_, fun b hb => hs.sep b (hmem b hb), hs.imm⟩
    · obtain ⟨i, h4, h5⟩ := hcS j c h1
      exact ORel.back hback (hs.obs i _ l h5 (by rw [← hLc j i h4]; exact h2))
    · obtain ⟨i, h5, h6⟩ := hcS j c h1
      obtain ⟨i', h7, h8⟩ := hcS j' c' h3
      have hii : i ≠ i' := fun e => hne (hinj j j' i h5 (e ▸ h7))
      exact owns_apart hs.nodup h6 (by rw [← hLc j i h5]; exact h2) h8 (by rw [← hLc j' i' h7]; exact h4) hii b (by rw [own_ren]; exact hb) (by rw [own_ren]; exact hb')
  have hargs : VRelL w I Lc cargs (args.toList.map a.eval ++ cvs) := args_ok hs hback ha ((hs.evXs hx).append hcv)
  refine (hcall w I Lc _ hargs hOR).mono fun e w' ⟨r, v, S1, I1, L1, he, hR, hrv, hO1, evo, hle, hlay⟩ => ?_
  subst he
  obtain ⟨s1, hset, hk⟩ := hrest r S1 hR
  show wpList P all _ rest (a.put o.dst v) w'
  -- the caller's layout
  let L2 := L ++ L1.drop perm.length
  have hL1l : L1.length = S1.length := hO1.len
  have hleP : perm.length ≤ S1.length := by rw [← hlen]; exact hle
  have hfor : ∀ (j : Nat) (l : Lay), L1[j]? = some l → L2[σ1 s.S.length perm j]? = some l := by
    intro j l hl
    unfold σ1
    by_cases hj : j < perm.length
    · rw [if_pos hj]
      have h1 := hlay j (by rw [hlen]; exact hj)
      rw [hl] at h1
      have h2 := hLc j perm[j] (List.getElem?_eq_getElem hj)
      rw [← h1] at h2
      have hi : perm[j] < L.length := by rw [hs.len]; exact hlt _ (List.getElem_mem hj)
      simp only [List.getD, List.getElem?_eq_getElem hj, Option.getD_some, L2]
      rw [List.getElem?_append_left hi]
      exact h2.symm
    · rw [if_neg hj]
      simp only [L2]
      rw [List.getElem?_append_right (by rw [hs.len]; omega), hs.len, List.getElem?_drop]
      rw [← hl]
      congr 1
      omega
  have hext : ∀ (i : Nat) (l : Lay), L[i]? = some l → L2[i]? = some l := fun i l hl => by
    simp only [L2]
    rw [List.getElem?_append_left (List.getElem?_eq_some_iff.1 hl).1]; exact hl
  have hI : ∀ b, I b → w'.heap[b]? = w.heap[b]? := fun b hb => evo.keep b (hs.imm b hb) fun h => (hs.sep b (hmem b h)).1 hb
  have hblk : ∀ b ∈ owns S1 L1, b ∈ owns cS Lc ∨ w.heap.size ≤ b := evo.own
  have hS2 : (setAll s.S perm (renOs (σ1 s.S.length perm) (S1.take perm.length)) ++ renOs (σ1 s.S.length perm) (S1.drop perm.length)).length = L2.length := by
    simp only [L2, List.length_append, setAll_length, renOs_length, List.length_drop, hs.len, hL1l]
  -- what stands where
  have hcase : ∀ (i : Nat) (ob : Ob) (l : Lay), (setAll s.S perm (renOs (σ1 s.S.length perm) (S1.take perm.length)) ++ renOs (σ1 s.S.length perm) (S1.drop perm.length))[i]? = some ob → L2[i]? = some l →
      (i ∉ perm ∧ s.S[i]? = some ob ∧ L[i]? = some l) ∨ (∃ (j : Nat) (c : Ob), i = σ1 s.S.length perm j ∧ S1[j]? = some c ∧ L1[j]? = some l ∧ ob = renO (σ1 s.S.length perm) c) := by
    intro i ob l h1 h2
    by_cases hi : i < s.S.length
    · rw [List.getElem?_append_left (by rw [setAll_length]; exact hi)] at h1
      have h2' : L[i]? = some l := by
        simp only [L2] at h2
        rwa [List.getElem?_append_left (by rw [hs.len]; exact hi)] at h2
      by_cases hip : i ∈ perm
      · right
        obtain ⟨j, hj⟩ := List.getElem?_of_mem hip
        have hjl : j < perm.length := (List.getElem?_eq_some_iff.1 hj).1
        have hj1 : j < S1.length := by omega
        have hget : (renOs (σ1 s.S.length perm) (S1.take perm.length))[j]? = some (renO (σ1 s.S.length perm) S1[j]) := by
          rw [renOs_get, List.getElem?_take_of_lt hjl, List.getElem?_eq_getElem hj1]; rfl
        rw [setAll_at perm s.S _ j i _ hn hj hget hi] at h1
        cases h1
        refine ⟨j, S1[j], ?_, List.getElem?_eq_getElem hj1, ?_, rfl⟩
        · unfold σ1
          rw [if_pos hjl, List.getD_eq_getElem?_getD, hj]
          rfl
        · rw [hlay j (by rw [hlen]; exact hjl), hLc j i hj]; exact h2'
      · left
        rw [setAll_other perm s.S _ i hip] at h1
        exact ⟨hip, h1, h2'⟩
    · right
      rw [List.getElem?_append_right (by rw [setAll_length]; omega), setAll_length, renOs_get, List.getElem?_drop] at h1
      simp only [L2] at h2
      rw [List.getElem?_append_right (by rw [hs.len]; omega), hs.len, List.getElem?_drop] at h2
      simp only [Option.map_eq_some_iff] at h1
      obtain ⟨c, hc1, rfl⟩ := h1
      refine ⟨perm.length + (i - s.S.length), c, ?_, hc1, h2, rfl⟩
      unfold σ1
      rw [if_neg (by omega)]
      omega
  -- blocks of the caller's that were not handed over
  have hfar : ∀ (i : Nat) (ob : Ob) (l : Lay), i ∉ perm → s.S[i]? = some ob → L[i]? = some l → ∀ b ∈ own ob l, b ∉ owns cS Lc := by
    intro i ob l hip h1 h2 b hb hb'
    obtain ⟨j, c, lc, h3, h4, h5⟩ := owns_of_mem hb'
    obtain ⟨i', h6, h7⟩ := hcS j c h3
    have hne : i ≠ i' := fun e => hip (e ▸ List.mem_of_getElem? h6)
    exact owns_apart hs.nodup h1 h2 h7 (by rw [← hLc j i' h6]; exact h4) hne b hb (by rw [own_ren]; exact h5)
  have hold : ∀ (i : Nat) (ob : Ob) (l : Lay), i ∉ perm → s.S[i]? = some ob → L[i]? = some l → ∀ b ∈ own ob l, w'.heap[b]? = w.heap[b]? := fun i ob l hip h1 h2 b hb =>
    evo.keep b (hs.sep b (owns_mem h1 h2 b hb)).2 (hfar i ob l hip h1 h2 b hb)
  have hSR : SR w' I1 L2 { s with S := setAll s.S perm (renOs (σ1 s.S.length perm) (S1.take perm.length)) ++ renOs (σ1 s.S.length perm) (S1.drop perm.length) } a := by
    refine ⟨fun t x hx => VRel.mono hI evo.imm hext _ _ (hs.env t x hx), hs.nt, hS2.symm, ?_, ?_, ?_, hO1.imm, hs.defers⟩
    · intro i ob l h1 h2
      rcases hcase i ob l h1 h2 with ⟨hip, h3, h4⟩ | ⟨j, c, rfl, h3, h4, rfl⟩
      · exact ORel.mono hI evo.imm hext (hold i ob l hip h3 h4) (hs.obs i ob l h3 h4)
      · exact ORel.ren hfor (hO1.obs j c l h3 h4)
    · refine owns_nodup fun i i' ob ob' l l' hne h1 h2 h3 h4 b hb hb' => ?_
      rcases hcase i ob l h1 h2 with ⟨hip, h5, h6⟩ | ⟨j, c, rfl, h5, h6, rfl⟩
      · rcases hcase i' ob' l' h3 h4 with ⟨hip', h7, h8⟩ | ⟨j', c', rfl, h7, h8, rfl⟩
        · exact owns_apart hs.nodup h5 h6 h7 h8 hne b hb hb'
        · rw [own_ren] at hb'
          rcases hblk b (owns_mem h7 h8 b hb') with h9 | h9
          · exact hfar i ob l hip h5 h6 b hb h9
          · have := (hs.sep b (owns_mem h5 h6 b hb)).2; omega
      · rw [own_ren] at hb
        rcases hcase i' ob' l' h3 h4 with ⟨hip', h7, h8⟩ | ⟨j', c', rfl, h7, h8, rfl⟩
        · rcases hblk b (owns_mem h5 h6 b hb) with h9 | h9
          · exact hfar i' ob' l' hip' h7 h8 b hb' h9
          · have := (hs.sep b (owns_mem h7 h8 b hb')).2; omega
        · rw [own_ren] at hb'
          exact owns_apart hO1.nodup h5 h6 h7 h8 (fun e => hne (by rw [e])) b hb hb'
    · intro b hb
      obtain ⟨i, ob, l, h1, h2, h3⟩ := owns_of_mem hb
      rcases hcase i ob l h1 h2 with ⟨hip, h5, h6⟩ | ⟨j, c, rfl, h5, h6, rfl⟩
      · have hold1 := hs.sep b (owns_mem h5 h6 b h3)
        refine ⟨fun hi => ?_, Nat.lt_of_lt_of_le hold1.2 evo.size⟩
        rcases evo.immNew b hi with h9 | h9 | h9
        · exact hold1.1 h9
        · exact hfar i ob l hip h5 h6 b h3 h9
        · omega
      · rw [own_ren] at h3
        exact hO1.sep b (owns_mem h5 h6 b h3)
  have hStep : Step w I L s w' I1 L2 { s with S := setAll s.S perm (renOs (σ1 s.S.length perm) (S1.take perm.length)) ++ renOs (σ1 s.S.length perm) (S1.drop perm.length) } := by
    refine ⟨⟨evo.os, evo.tape, evo.output, evo.size, fun b hb hnb => evo.keep b hb fun h => hnb (hmem b h), evo.imm, fun b hb => ?_, fun b hb => ?_⟩, rfl, fun i hi => ?_⟩
    · rcases evo.immNew b hb with h | h | h
      · exact .inl h
      · exact .inr (.inl (hmem b h))
      · exact .inr (.inr h)
    · obtain ⟨i, ob, l, h1, h2, h3⟩ := owns_of_mem hb
      rcases hcase i ob l h1 h2 with ⟨hip, h5, h6⟩ | ⟨j, c, rfl, h5, h6, rfl⟩
      · exact .inl (owns_mem h5 h6 b h3)
      · rw [own_ren] at h3
        exact (hblk b (owns_mem h5 h6 b h3)).imp (hmem b) fun h => h
    · simp only [L2]
      rw [List.getElem?_append_left (by rw [hs.len]; omega)]
  obtain ⟨q1, q2⟩ := put_step hSR hStep (VRel.ren hfor hrv) hset
  exact wpList_mono (fun e a' w'' p => p.from q2) _ _ _ (hk w' I1 L2 _ q1)

end
end Go.Proofs.Ytaobnhenjldjeaa.Pay
/- Calls that hand over data alone; what a state may be taken for; operations run one behind the other. No statement of the seed is proved here. -/
namespace Go.Proofs.Ytaobnhenjldjeaa.Pay
open Go Go.RowKit
set_option linter.unusedVariables false
set_option linter.unusedSimpArgs false

section
variable {P : Program} {T : Nat → Option TI} {w w' : World} {I I' : Nat → Prop} {L L' : List Lay} {s s' s1 : St} {a : Act} {all : Array Oper} {o : Oper} {rest : List Oper} {Q : Exit → St → Prop} {c : Code}

theorem argsOk_view {S : List Ob} : ∀ {xs cs : List FV}, viewFs false S xs = some cs → ArgsOk S [] xs cs
  | [], cs, h => by simp [viewFs] at h; subst h; trivial
  | x :: xs, cs, h => by
    simp only [viewFs, Option.bind_eq_some_iff, Option.map_eq_some_iff] at h
    obtain ⟨y, hy, zs, hz, rfl⟩ := h
    exact ⟨.inr hy, argsOk_view hz⟩

/-- A call that hands over data alone. -/
theorem WpO.callD {fx : Operand} {args : Array Operand} {ts : Array TypeId} {g : FuncId} {caps xs cargs : List FV} (hw : wantS all s o = some true) (ho : o.op = .call { callee := .value fx, args, argTypes := ts })
    (hf : evX s fx = some (.fn g caps)) (hx : evXs s args.toList = some xs) (hv : viewFs false s.S (xs ++ caps) = some cargs) (hc : Callable P g) (hp : s.pin ≤ s.S.length)
    {R : FV → List Ob → Prop} (hcall : WpF P g cargs [] R)
    (hrest : ∀ r S1, R r S1 → ∃ s', setS { s with S := s.S ++ renOs (σ1 s.S.length []) S1 } o.dst (ren (σ1 s.S.length []) r) = some s' ∧ WpO P all rest s' Q) : WpO P all (o :: rest) s Q :=
  WpO.call hw ho hf hx hc hp [] (by simp) (by simp) (argsOk_view hv) ⟨rfl, fun j i c h => by simp at h⟩ hcall (fun r S1 hr => by simpa [setAll, renOs] using hrest r S1 hr)

def D.flat : D → Bool
  | .bool _ | .int _ _ | .str _ | .flt _ _ | .cpx _ _ _ | .nil | .nilp | .nili | .any | .nilm => true
  | _ => false
def D.flats : List D → Bool
  | [] => true
  | x :: r => x.flat && D.flats r
/-- Values that lead nowhere. -/
def flatV : FV → Bool
  | .d (.agg cs) => D.flats cs
  | .d x => x.flat
  | _ => false
def flatVs : List FV → Bool
  | [] => true
  | x :: r => flatV x && flatVs r
def flatR : FV → Bool
  | .tup vs => flatVs vs
  | x => flatV x

theorem D.flat_any {w1 w2 : World} {I1 I2 : Nat → Prop} {x : D} {v : Value} (h : x.flat = true) (hx : DRel w1 I1 x v) : DRel w2 I2 x v := by
  cases x <;> simp [D.flat] at h <;> simpa only [DRel] using hx
theorem D.flats_any {w1 w2 : World} {I1 I2 : Nat → Prop} : ∀ {xs : List D} {vs : List Value}, D.flats xs = true → DRelL w1 I1 xs vs → DRelL w2 I2 xs vs
  | [], vs, _, hx => by simpa only [DRelL] using hx
  | x :: xs, vs, h, hx => by
    simp only [D.flats, Bool.and_eq_true] at h
    simp only [DRelL] at hx ⊢
    obtain ⟨v, r, h1, h2, h3⟩ := hx
    exact ⟨v, r, h1, D.flat_any h.1 h2, D.flats_any h.2 h3⟩
theorem flatV_any {w1 w2 : World} {I1 I2 : Nat → Prop} {L1 L2 : List Lay} {x : FV} {v : Value} (h : flatV x = true) (hx : VRel w1 I1 L1 x v) : VRel w2 I2 L2 x v := by
  unfold flatV at h
  split at h
  · simp only [VRel, DRel] at hx ⊢
    obtain ⟨vs, h1, h2, h3⟩ := hx
    exact ⟨vs, h1, h2, D.flats_any h h3⟩
  · simp only [VRel] at hx ⊢; exact D.flat_any h hx
  · cases h
theorem flatVs_any {w1 w2 : World} {I1 I2 : Nat → Prop} {L1 L2 : List Lay} : ∀ {xs : List FV} {vs : List Value}, flatVs xs = true → VRelL w1 I1 L1 xs vs → VRelL w2 I2 L2 xs vs
  | [], vs, _, hx => by simpa only [VRelL] using hx
  | x :: xs, vs, h, hx => by
    simp only [flatVs, Bool.and_eq_true] at h
    simp only [VRelL] at hx ⊢
    obtain ⟨v, r, h1, h2, h3⟩ := hx
    exact ⟨v, r, h1, flatV_any h.1 h2, flatVs_any h.2 h3⟩
theorem flatR_any {w1 w2 : World} {I1 I2 : Nat → Prop} {L1 L2 : List Lay} {x : FV} {v : Value} (h : flatR x = true) (hx : VRel w1 I1 L1 x v) : VRel w2 I2 L2 x v := by
  unfold flatR at h
  split at h
  · simp only [VRel] at hx ⊢
    obtain ⟨vs, h1, h2⟩ := hx
    exact ⟨vs, h1, flatVs_any h h2⟩
  · exact flatV_any h hx

/-- A call that is lent rows; what it hands back leads nowhere. -/
theorem WpO.callL {fx : Operand} {args : Array Operand} {ts : Array TypeId} {g : FuncId} {caps xs cargs : List FV} (hw : wantS all s o = some true) (ho : o.op = .call { callee := .value fx, args, argTypes := ts })
    (hf : evX s fx = some (.fn g caps)) (hx : evXs s args.toList = some xs) (hv : viewFs true s.S (xs ++ caps) = some cargs) (hc : Callable P g)
    {R : FV → List Ob → Prop} (hcall : WpF P g cargs [] R)
    (hrest : ∀ r S1, R r S1 → flatR r = true ∧ ∃ s', setS s o.dst r = some s' ∧ WpO P all rest s' Q) : WpO P all (o :: rest) s Q := fun w I L a hs => by
  unfold wpList
  rw [if_pos (hs.want hw)]
  refine .inl ?_
  have hfv := hs.evX hf
  simp only [VRel] at hfv
  obtain ⟨cvs, hfv, hcv⟩ := hfv
  unfold Oper.wp
  rw [run_call hc ho hfv, Oper.upon_enter]
  have hargs : VRelL w (lentI I s.S L) [] cargs (args.toList.map a.eval ++ cvs) := viewLs_ok hs [] ((hs.evXs hx).append hcv) hv
  have hOR : OR w (lentI I s.S L) [] [] := ⟨rfl, fun i o l h => by simp at h, by simp [owns], fun b hb => by simp [owns] at hb, fun b hb => by
    rcases hb with hb | hb
    · exact hs.imm b hb
    · exact (hs.sep b hb).2⟩
  refine (hcall w _ [] _ hargs hOR).mono fun e w' ⟨r, v, S1, I1, L1, he, hR, hrv, hO1, evo, hle, hlay⟩ => ?_
  subst he
  obtain ⟨hfl, s1, hset, hk⟩ := hrest r S1 hR
  show wpList P all _ rest (a.put o.dst v) w'
  have hkeep : ∀ b, b < w.heap.size → w'.heap[b]? = w.heap[b]? := fun b hb => evo.keep b hb (by simp [owns])
  have h1 : SR w' I L s a := hs.world (fun b hb => hkeep b (hs.imm b hb)) (fun b hb => hkeep b (hs.sep b hb).2) evo.size
  have h2 : Step w I L s w' I L s := ⟨⟨evo.os, evo.tape, evo.output, evo.size, fun b hb _ => hkeep b hb, fun _ h => h, fun _ h => .inl h, fun _ h => .inl h⟩, rfl, fun _ _ => rfl⟩
  obtain ⟨q1, q2⟩ := put_step h1 h2 (flatR_any hfl hrv) hset
  exact wpList_mono (fun e a' w'' p => p.from q2) _ _ _ (hk w' I L _ q1)

/-! ### What a state may be taken for -/

def Gh (s s' : St) : Prop := ∀ w I L a, SR w I L s a → ∃ I' L', SR w I' L' s' a ∧ Step w I L s w I' L' s'

theorem Gh.refl (s : St) : Gh s s := fun _ I L _ hs => ⟨I, L, hs, Step.refl _ _ _ _⟩
theorem Gh.trans {s1 s2 s3 : St} (h : Gh s1 s2) (k : Gh s2 s3) : Gh s1 s3 := fun w I L a hs => by
  obtain ⟨I1, L1, h1, t1⟩ := h w I L a hs
  obtain ⟨I2, L2, h2, t2⟩ := k w I1 L1 a h1
  exact ⟨I2, L2, h2, t1.trans t2⟩
theorem WpC.gh (h : Gh s s') (k : WpC P c s' Q) : WpC P c s Q := fun w I L a hs => by
  obtain ⟨I1, L1, h1, t1⟩ := h w I L a hs
  exact wp_mono (k w I1 L1 a h1) fun _ _ _ p => p.from t1
theorem WpO.gh (h : Gh s s') (k : WpO P all rest s' Q) : WpO P all rest s Q := fun w I L a hs => by
  obtain ⟨I1, L1, h1, t1⟩ := h w I L a hs
  exact wpList_mono (fun _ _ _ p => p.from t1) _ _ _ (k w I1 L1 a h1)
/-- At the end of a piece of code. -/
theorem WpC.post {Q' : Exit → St → Prop} (k : WpC P c s Q') (h : ∀ e s1, Q' e s1 → ∃ s2, Gh s1 s2 ∧ Q e s2) : WpC P c s Q := fun w I L a hs =>
  wp_mono (k w I L a hs) fun e a' w' ⟨s1, I1, L1, q, r, t⟩ => by
    obtain ⟨s2, g, q2⟩ := h e s1 q
    obtain ⟨I2, L2, r2, t2⟩ := g w' I1 L1 a' r
    exact ⟨s2, I2, L2, q2, r2, t.trans t2⟩

/-- Fewer slots are known. -/
theorem Gh.forget {env : List (Nat × FV)} (h : ∀ t x, get env t = some x → get s.env t = some x) : Gh s { s with env := env } := fun _ I L _ hs =>
  ⟨I, L, ⟨fun t x hx => hs.env t x (h t x hx), hs.nt, hs.len, hs.obs, hs.nodup, hs.sep, hs.imm, hs.defers⟩, ⟨Evo.refl _ _ _, rfl, fun _ _ => rfl⟩⟩

def keepE (env : List (Nat × FV)) : List Nat → Option (List (Nat × FV))
  | [] => some []
  | t :: r => (get env t).bind fun x => (keepE env r).map ((t, x) :: ·)

theorem keepE_get {env : List (Nat × FV)} : ∀ {ks : List Nat} {env' : List (Nat × FV)}, keepE env ks = some env' → ∀ t x, get env' t = some x → get env t = some x
  | [], env', h, t, x, hx => by simp [keepE] at h; subst h; simp [get] at hx
  | k :: ks, env', h, t, x, hx => by
    simp only [keepE, Option.bind_eq_some_iff, Option.map_eq_some_iff] at h
    obtain ⟨y, hy, e, he, rfl⟩ := h
    simp only [get] at hx
    by_cases hk : k = t
    · rw [if_pos hk] at hx; cases hx; subst hk; exact hy
    · rw [if_neg hk] at hx; exact keepE_get he t x hx

theorem Gh.keep (ks : List Nat) {env : List (Nat × FV)} (h : keepE s.env ks = some env) : Gh s { s with env := env } := Gh.forget (keepE_get h)

/-- A slot's value is taken for another one. -/
theorem Gh.slot {t : Nat} {x y : FV} (hx : get s.env t = some x) (h : ∀ w I L a v, SR w I L s a → VRel w I L x v → VRel w I L y v) : Gh s { s with env := (t, y) :: s.env } := fun w I L a hs =>
  ⟨I, L, ⟨fun t' z hz => by
    simp only [get] at hz
    by_cases ht : t = t'
    · rw [if_pos ht] at hz; cases hz; subst ht; exact h w I L a _ hs (hs.env t x hx)
    · rw [if_neg ht] at hz; exact hs.env t' z hz, hs.nt, hs.len, hs.obs, hs.nodup, hs.sep, hs.imm, hs.defers⟩, ⟨Evo.refl _ _ _, rfl, fun _ _ => rfl⟩⟩

theorem Gh.view {t : Nat} {x y : FV} (hx : get s.env t = some x) (h : viewF false s.S x = some y) : Gh s { s with env := (t, y) :: s.env } :=
  Gh.slot hx fun _ _ L _ _ hs hv => viewF_ok hs L hv h

/-- Objects in another order, and fewer of them. -/
theorem Gh.renum (perm : List Nat) (hn : perm.Nodup) (hlt : ∀ i ∈ perm, i < s.S.length) {env : List (Nat × FV)} {S : List Ob} (he : ∀ t x, get env t = some x → get s.env t = some (ren (σ0 s.S.length perm) x))
    (hS : PassOk s.S perm S) (hp : ∀ i, i < s.pin → perm[i]? = some i) : Gh s { s with env := env, S := S } := fun w I L a hs => by
  obtain ⟨hlen, hpo⟩ := hS
  have hLc : ∃ Lc : List Lay, Lc.length = perm.length ∧ ∀ (j i : Nat), perm[j]? = some i → Lc[j]? = L[i]? := by
    refine ⟨perm.map fun i => L.getD i (.m 0), by simp, fun j i hj => ?_⟩
    have hi : i < L.length := by rw [hs.len]; exact hlt i (List.mem_of_getElem? hj)
    simp [hj, List.getD, List.getElem?_eq_getElem hi]
  obtain ⟨Lc, hLl, hLc⟩ := hLc
  have hback : ∀ (j : Nat) (l : Lay), L[σ0 s.S.length perm j]? = some l → Lc[j]? = some l := by
    intro j l hl
    by_cases hj : j < perm.length
    · rw [hLc j perm[j] (List.getElem?_eq_getElem hj)]
      simpa [σ0, List.getD, List.getElem?_eq_getElem hj] using hl
    · have : L.length ≤ s.S.length := by rw [hs.len]; exact Nat.le_refl _
      simp [σ0, List.getD, List.getElem?_eq_none (Nat.le_of_not_lt hj), List.getElem?_eq_none this] at hl
  have hcS : ∀ (j : Nat) (c : Ob), S[j]? = some c → ∃ i, perm[j]? = some i ∧ s.S[i]? = some (renO (σ0 s.S.length perm) c) := by
    intro j c hj
    have hjl : j < perm.length := by rw [← hlen]; exact (List.getElem?_eq_some_iff.1 hj).1
    exact ⟨perm[j], List.getElem?_eq_getElem hjl, hpo j _ c (List.getElem?_eq_getElem hjl) hj⟩
  have hinj : ∀ (j j' i : Nat), perm[j]? = some i → perm[j']? = some i → j = j' := by
    intro j j' i h1 h2
    exact (List.getElem?_inj (List.getElem?_eq_some_iff.1 h1).1 hn).1 (h1.trans h2.symm)
  have hmem : ∀ b ∈ owns S Lc, b ∈ owns s.S L := by
    intro b hb
    obtain ⟨j, c, l, h1, h2, h3⟩ := owns_of_mem hb
    obtain ⟨i, h4, h5⟩ := hcS j c h1
    exact owns_mem h5 (by rw [← hLc j i h4]; exact h2) b (by rw [own_ren]; exact h3)
  refine ⟨I, Lc, ⟨fun t x hx => VRel.back hback (hs.env t _ (he t x hx)), hs.nt, by rw [hLl]; exact hlen.symm, fun j c l h1 h2 => ?_, owns_nodup fun j j' c c' l l' hne h1 h2 h3 h4 b hb hb' => ?_, fun b hb => hs.sep b (hmem b hb), hs.imm, hs.defers⟩,
    ⟨⟨rfl, rfl, rfl, Nat.le_refl _, fun _ _ _ => rfl, fun _ h => h, fun _ h => .inl h, fun b hb => .inl (hmem b hb)⟩, rfl, fun i hi => hLc i i (hp i hi)⟩⟩
  · obtain ⟨i, h4, h5⟩ := hcS j c h1
    exact ORel.back hback (hs.obs i _ l h5 (by rw [← hLc j i h4]; exact h2))
  · obtain ⟨i, h5, h6⟩ := hcS j c h1
    obtain ⟨i', h7, h8⟩ := hcS j' c' h3
    have hii : i ≠ i' := fun e => hne (hinj j j' i h5 (e ▸ h7))
    exact owns_apart hs.nodup h6 (by rw [← hLc j i h5]; exact h2) h8 (by rw [← hLc j' i' h7]; exact h4) hii b (by rw [own_ren]; exact hb) (by rw [own_ren]; exact hb')

/-- A row of the call's own is written no more. -/
theorem Gh.freeze {id : Nat} {e : TypeId} {k : Nat} {xs : List D} (hS : s.S[id]? = some (.arr e k xs)) : Gh s { s with S := s.S.set id (.frz k xs) } := fun w I L a hs => by
  have hlt : id < L.length := by rw [hs.len]; exact (List.getElem?_eq_some_iff.1 hS).1
  obtain ⟨l, hl⟩ : ∃ l, L[id]? = some l := ⟨L[id], List.getElem?_eq_getElem hlt⟩
  obtain ⟨d1, d2⟩ := owns_drop (o' := .frz k xs) hS hl (by cases l <;> rfl) hs.nodup
  have hI : ∀ b, I b → (I b ∨ b ∈ own (.arr e k xs) l) := fun b hb => .inl hb
  refine ⟨fun b => I b ∨ b ∈ own (.arr e k xs) l, L, ⟨fun t x hx => VRel.mono (fun _ _ => rfl) hI (fun _ _ h => h) _ _ (hs.env t x hx), hs.nt, by simp [hs.len], ?_, d1, ?_, ?_, hs.defers⟩,
    ⟨⟨rfl, rfl, rfl, Nat.le_refl _, fun _ _ _ => rfl, hI, fun b hb => ?_, fun b hb => .inl (d2 b hb).1⟩, rfl, fun _ _ => rfl⟩⟩
  · intro j oj lj h1 h2
    by_cases hj : id = j
    · subst hj
      have h1' : (s.S.set id (.frz k xs))[id]? = some oj := h1
      rw [List.getElem?_set_self (List.getElem?_eq_some_iff.1 hS).1] at h1'
      cases h1'
      rw [hl] at h2; cases h2
      rcases hs.obs _ _ _ hS hl with ⟨base, cp, vs, rfl, hown, hr⟩ | ⟨hd, rfl, rfl⟩
      · refine ⟨Lay.head base, cp, rfl, ?_⟩
        simp only [DRel]
        have hcap := (sl_cap hs hS hl (show (Lay.a base cp).hdr = some (Lay.head base, cp) from rfl)).1
        refine ⟨_, cp, rfl, hcap, ?_⟩
        by_cases hx0 : xs = []
        · exact .inl hx0
        · right
          have hx1 : 0 < xs.length := by cases xs <;> simp_all
          obtain ⟨b, hb, _⟩ := (sl_cap hs hS hl (show (Lay.a base cp).hdr = some (Lay.head base, cp) from rfl)).2 hx1
          cases hb
          refine ⟨b, 0, vs, rfl, .inr (by simp [own]), ?_, DRelR.mono (fun _ _ => rfl) hI _ _ _ hr⟩
          by_cases h0 : 0 < vs.length
          · obtain ⟨b', hb', hc⟩ := ownsRow_cells hown h0
            cases hb'; exact hc
          · have : vs = [] := List.eq_nil_of_length_eq_zero (by omega)
            subst this
            intro q v hv; simp at hv
      · refine ⟨hd, 0, rfl, ?_⟩
        simp only [DRel]
        exact ⟨hd, 0, rfl, by simp, .inl trivial⟩
    · have h1' : (s.S.set id (.frz k xs))[j]? = some oj := h1
      rw [List.getElem?_set_ne hj] at h1'
      exact ORel.mono (fun _ _ => rfl) hI (fun _ _ h => h) (fun _ _ => rfl) (hs.obs j oj lj h1' h2)
  · intro b hb
    have h1 := d2 b hb
    have h2 := hs.sep b h1.1
    exact ⟨fun h => h.elim h2.1 h1.2, h2.2⟩
  · intro b hb
    rcases hb with hb | hb
    · exact hs.imm b hb
    · exact (hs.sep b (owns_mem hS hl b hb)).2
  · rcases hb with hb | hb
    · exact .inl hb
    · exact .inr (.inl (owns_mem hS hl b hb))

/-- The nil slice is a row of the call's own. -/
theorem Gh.nilArr {t : Nat} (e k : Nat) (hx : get s.env t = some (.d .nil)) (hp : s.pin ≤ s.S.length) : Gh s { s with env := (t, .sl s.S.length 0) :: s.env, S := s.S ++ [.arr e k []] } := fun w I L a hs => by
  have hor : ORel w I (L ++ [.a none 0]) (.arr e k []) (.a none 0) := .inl ⟨none, 0, [], rfl, World.ownsRow_nil w 0 e k, by simp [DRelR]⟩
  have r1 := hs.more (w' := w) (fun _ _ => rfl) (Nat.le_refl _) hor (fun b hb => by simp [own] at hb) (own_nodup _ _)
  have r2 := Step.more (w' := w) hs (fun _ _ => rfl) rfl rfl rfl (Nat.le_refl _) (o := .arr e k []) (l := .a none 0) (fun b hb => by simp [own] at hb) hp
  refine ⟨I, L ++ [.a none 0], ⟨fun t' z hz => ?_, r1.nt, r1.len, r1.obs, r1.nodup, r1.sep, r1.imm, r1.defers⟩, r2.evo, r2.pin, r2.lay⟩
  simp only [get] at hz
  by_cases ht : t = t'
  · rw [if_pos ht] at hz
    cases hz; subst ht
    have h1 := hs.env t _ hx
    simp only [VRel, DRel] at h1 ⊢
    exact ⟨.a none 0, none, 0, by rw [List.getElem?_append_right (by rw [hs.len]; exact Nat.le_refl _), hs.len]; simp, rfl, h1⟩
  · rw [if_neg ht] at hz
    exact r1.env t' z hz

/-! ### Operations, one behind the other -/

/-- One operation that calls no function. -/
def evOp (T : Nat → Option TI) (o : Oper) (s : St) : Option St :=
  match o.op with
  | .alloc t => (T t).bind fun i => if s.pin ≤ s.S.length then setS { s with S := s.S ++ [.cells t (i.zero.map .d)] } o.dst (.ref s.S.length 0) else none
  | .box t x => (evX s x).bind fun v => if plainV v = true ∧ s.pin ≤ s.S.length then setS { s with S := s.S ++ [.cells t (fvCells v)] } o.dst (.ref s.S.length 0) else none
  | .store t p x => (evX s p).bind fun vp => (evX s x).bind fun vx => (evStN T s t vp vx).bind fun S' => setS { s with S := S' } o.dst (.tup [])
  | .makeSlice t l c => (T t).bind fun i => (match i.kind with
    | .slice e => (T e).bind fun ei => (match evX s l, evX s c with
      | some (.d (.int _ n)), some (.d (.int _ m)) => if n = m ∧ 0 ≤ n ∧ ei.bytes ≤ 16384 ∧ n ≤ 8589934592 ∧ okEl ei = true ∧ s.pin ≤ s.S.length then
          setS { s with S := s.S ++ [.arr e ei.size (List.replicate n.toNat ei.zeroD)] } o.dst (.sl s.S.length n.toNat) else none
      | _, _ => none)
    | _ => none)
  | .buildSlice t len parts => (T t).bind fun i => (match i.kind with
    | .slice e => (T e).bind fun ei => (partsD s 0 parts.toList).bind fun xs =>
        if len = xs.length ∧ xs.all (szD ei) = true ∧ len * ei.size ≤ 16777216 ∧ len ≤ 8589934592 ∧ okEl ei = true ∧ s.pin ≤ s.S.length then setS { s with S := s.S ++ [.arr e ei.size xs] } o.dst (.sl s.S.length len) else none
    | _ => none)
  | .build t parts => (evBd T s t parts.toList).bind fun v => setS s o.dst v
  | .call { callee := .builtin .append, args, argTypes } => (match args.toList, argTypes.toList with
    | [sx, yx], [t, u] => (evX s sx).bind fun vx => (evX s yx).bind fun vy => (evAp T s t u vx vy).bind fun p =>
      if s.pin ≤ s.S.length then setS { s with S := p.1 } o.dst (.sl s.S.length p.2) else none
    | _, _ => none)
  | .call { callee := .builtin .copy, args, argTypes } => (match args.toList, argTypes.toList with
    | [dx, yx], [t, _] => (evX s dx).bind fun vx => (evX s yx).bind fun vy => (evCo T s t vx vy).bind fun p => setS { s with S := p.1 } o.dst (.d (.int .i64 p.2))
    | _, _ => none)
  | _ => (evA T s o.op).bind fun x => setS s o.dst x

theorem evOp_ok (hT : TabOk P T) (h : evOp T o s = some s') : OpOk P o s s' := by
  unfold evOp at h
  split at h
  · rename_i t ho
    simp only [Option.bind_eq_some_iff] at h
    obtain ⟨i, hi, h⟩ := h
    split at h
    · rename_i hp; exact OpOk.alloc hT ho hi hp h
    · cases h
  · rename_i t x ho
    simp only [Option.bind_eq_some_iff] at h
    obtain ⟨v, hv, h⟩ := h
    split at h
    · rename_i hp; exact OpOk.box ho hv hp.1 hp.2 h
    · cases h
  · rename_i t p x ho
    simp only [Option.bind_eq_some_iff] at h
    obtain ⟨vp, hp, vx, hx, S', hS, h⟩ := h
    exact OpOk.store hT ho hp hx hS h
  · rename_i t l c ho
    simp only [Option.bind_eq_some_iff] at h
    obtain ⟨i, hi, h⟩ := h
    split at h
    · rename_i e hk
      simp only [Option.bind_eq_some_iff] at h
      obtain ⟨ei, hei, h⟩ := h
      split at h
      · rename_i k1 n k2 m hl hc
        split at h
        · rename_i hcond
          obtain ⟨rfl, h0, hb, hsm, hok, hp⟩ := hcond
          have hn : n.toNat ≤ 8589934592 := by omega
          obtain ⟨q1, q2⟩ := small_bytes hn hb
          exact OpOk.make hT ho hi hk hei hl hc h0 (by rw [Nat.mul_comm]; omega) q2 hok hp h
        · cases h
      · cases h
    · cases h
  · rename_i t len parts ho
    simp only [Option.bind_eq_some_iff] at h
    obtain ⟨i, hi, h⟩ := h
    split at h
    · rename_i e hk
      simp only [Option.bind_eq_some_iff] at h
      obtain ⟨ei, hei, xs, hx, h⟩ := h
      split at h
      · rename_i hcond
        obtain ⟨h1, h2, h3, h4, h5, h6⟩ := hcond
        exact OpOk.lit hT ho hi hk hei hx h1 h2 h3 (by simp only [maxLen]; omega) h5 h6 h
      · cases h
    · cases h
  · rename_i t parts ho
    simp only [Option.bind_eq_some_iff] at h
    obtain ⟨v, hv, h⟩ := h
    exact OpOk.build hT ho hv h
  · rename_i args ts ho
    split at h
    · rename_i sx yx t u e1 e2
      simp only [Option.bind_eq_some_iff] at h
      obtain ⟨vx, hx, vy, hy, p, hp, h⟩ := h
      have e1' : args = #[sx, yx] := by apply Array.ext'; simpa using e1
      have e2' : ts = #[t, u] := by apply Array.ext'; simpa using e2
      subst e1'; subst e2'
      split at h
      · rename_i hpin; exact OpOk.append hT ho hx hy (S' := p.1) (n' := p.2) hp hpin h
      · cases h
    · cases h
  · rename_i args ts ho
    split at h
    · rename_i dx yx t u e1 e2
      simp only [Option.bind_eq_some_iff] at h
      obtain ⟨vx, hx, vy, hy, p, hp, h⟩ := h
      have e1' : args = #[dx, yx] := by apply Array.ext'; simpa using e1
      have e2' : ts = #[t, u] := by apply Array.ext'; simpa using e2
      subst e1'; subst e2'
      exact OpOk.copy hT ho hx hy (S' := p.1) (n' := p.2) hp h
    · cases h
  · simp only [Option.bind_eq_some_iff] at h
    obtain ⟨x, hx, h⟩ := h
    exact OpOk.val hT hx h

/-- As many operations as are asked for. -/
def evOps (T : Nat → Option TI) (all : Array Oper) : Nat → List Oper → St → Option (List Oper × St)
  | 0, l, s => some (l, s)
  | _ + 1, [], s => some ([], s)
  | n + 1, o :: l, s => (wantS all s o).bind fun b => ((if b = true then evOp T o s else setS s o.dst (.tup [])) : Option St).bind fun s' => evOps T all n l s'

theorem WpO.run (hT : TabOk P T) : ∀ (n : Nat) {rest rest' : List Oper} {s s' : St}, evOps T all n rest s = some (rest', s') → WpO P all rest' s' Q → WpO P all rest s Q
  | 0, rest, rest', s, s', h, k => by simp [evOps] at h; obtain ⟨rfl, rfl⟩ := h; exact k
  | n + 1, [], rest', s, s', h, k => by simp [evOps] at h; obtain ⟨rfl, rfl⟩ := h; exact k
  | n + 1, o :: l, rest', s, s', h, k => by
    simp only [evOps, Option.bind_eq_some_iff] at h
    obtain ⟨b, hb, s1, h1, h2⟩ := h
    have hk := WpO.run hT n h2 k
    cases b with
    | true => exact WpO.step hb (evOp_ok hT (by simpa using h1)) hk
    | false => exact WpO.skip hb (by simpa using h1) hk

/-- A region that calls no function. -/
theorem WpC.ops (hT : TabOk P T) {id : Nat} {ops : Array Oper} {r : List Oper} (h : evOps T ops ops.size ops.toList s = some (r, s')) (hr : r = []) (k : Q .normal s') : WpC P (.region id ops false) s Q := by
  subst hr
  exact WpC.region (WpO.run hT _ h (WpO.nil k))

end
end Go.Proofs.Ytaobnhenjldjeaa.Pay
/- Counting loops; what is let go at a loop's head. No statement of the seed is proved here. -/
namespace Go.Proofs.Ytaobnhenjldjeaa.Pay
open Go Go.RowKit
set_option linter.unusedVariables false
set_option linter.unusedSimpArgs false

mutual
/-- All objects that a value names stand below n. -/
def below (n : Nat) : FV → Bool
  | .d _ => true
  | .ref id _ => decide (id < n)
  | .sl id _ => decide (id < n)
  | .er id _ _ _ => decide (id < n)
  | .dp _ => true
  | .agg cs => belows n cs
  | .fn _ cs => belows n cs
  | .tup cs => belows n cs
  | .mp id => decide (id < n)
  | .so id _ _ _ => decide (id < n)
  | .sc id _ _ => decide (id < n)
  | .dead => true
def belows (n : Nat) : List FV → Bool
  | [] => true
  | x :: r => below n x && belows n r
end
def belowE (n : Nat) : List (Nat × FV) → Bool
  | [] => true
  | (_, x) :: r => below n x && belowE n r
def belowO (n : Nat) : Ob → Bool
  | .cells _ cs => belows n cs
  | _ => true
def belowS (n : Nat) : List Ob → Bool
  | [] => true
  | o :: r => belowO n o && belowS n r

mutual
theorem ren_below {σ : Nat → Nat} {n : Nat} (h : ∀ i, i < n → σ i = i) : ∀ {x : FV}, below n x = true → ren σ x = x
  | .d _, _ => by simp [ren]
  | .ref id _, hx => by simp [below] at hx; simp [ren, h id hx]
  | .sl id _, hx => by simp [below] at hx; simp [ren, h id hx]
  | .er id _ _ _, hx => by simp [below] at hx; simp [ren, h id hx]
  | .dp _, _ => by simp [ren]
  | .agg cs, hx => by simp only [below] at hx; simp [ren, rens_below h hx]
  | .fn _ cs, hx => by simp only [below] at hx; simp [ren, rens_below h hx]
  | .tup cs, hx => by simp only [below] at hx; simp [ren, rens_below h hx]
  | .mp id, hx => by simp [below] at hx; simp [ren, h id hx]
  | .so id _ _ _, hx => by simp [below] at hx; simp [ren, h id hx]
  | .sc id _ _, hx => by simp [below] at hx; simp [ren, h id hx]
  | .dead, _ => by simp [ren]
theorem rens_below {σ : Nat → Nat} {n : Nat} (h : ∀ i, i < n → σ i = i) : ∀ {xs : List FV}, belows n xs = true → rens σ xs = xs
  | [], _ => by simp [rens]
  | x :: r, hx => by simp only [belows, Bool.and_eq_true] at hx; simp [rens, ren_below h hx.1, rens_below h hx.2]
end
theorem belowE_get {n : Nat} : ∀ {e : List (Nat × FV)} {t : Nat} {x : FV}, belowE n e = true → get e t = some x → below n x = true
  | [], t, x, _, h => by simp [get] at h
  | (k, y) :: r, t, x, hb, h => by
    simp only [belowE, Bool.and_eq_true] at hb
    simp only [get] at h
    by_cases hk : k = t
    · rw [if_pos hk] at h; cases h; exact hb.1
    · rw [if_neg hk] at h; exact belowE_get hb.2 h
theorem belowS_get {n : Nat} : ∀ {S : List Ob} {j : Nat} {o : Ob}, belowS n S = true → S[j]? = some o → belowO n o = true
  | [], j, o, _, h => by simp at h
  | x :: r, 0, o, hb, h => by simp only [belowS, Bool.and_eq_true] at hb; simp at h; exact h ▸ hb.1
  | x :: r, j + 1, o, hb, h => by simp only [belowS, Bool.and_eq_true] at hb; exact belowS_get hb.2 (by simpa using h)

section
variable {P : Program} {T : Nat → Option TI} {w w' : World} {I I' : Nat → Prop} {L L' : List Lay} {s s' s1 : St} {a : Act} {all : Array Oper} {o : Oper} {rest : List Oper} {Q : Exit → St → Prop} {c : Code}

/-- Slots are let go, and the objects from n on. -/
theorem Gh.cut (ks : List Nat) (S1 S2 : List Ob) {env : List (Nat × FV)} (he : keepE s.env ks = some env) (hS : s.S = S1 ++ S2) (h1 : belowE S1.length env = true) (h2 : belowS S1.length S1 = true) (hp : s.pin ≤ S1.length) :
    Gh s { s with env := env, S := S1 } := by
  have hσ : ∀ i, i < S1.length → σ0 s.S.length (List.range S1.length) i = i := by
    intro i hi
    simp [σ0, List.getD, List.getElem?_range hi]
  refine Gh.renum (List.range S1.length) List.nodup_range (fun i hi => by rw [hS]; simp at hi ⊢; omega) (fun t x hx => ?_) ⟨by simp, fun j i c h3 h4 => ?_⟩ (fun i hi => List.getElem?_range (by omega))
  · rw [ren_below hσ (belowE_get h1 hx)]; exact keepE_get he t x hx
  · have hj : j < S1.length := by simpa using (List.getElem?_eq_some_iff.1 h3).1
    rw [List.getElem?_range hj] at h3
    cases h3
    have hc : renO (σ0 s.S.length (List.range S1.length)) c = c := by
      have := belowS_get h2 h4
      cases c <;> simp only [renO, belowO] at this ⊢
      rw [rens_below hσ this]
    rw [hc, hS, List.getElem?_append_left hj]
    exact h4

/-- The same, at a state that is spelt. -/
theorem Gh.cut' (ks : List Nat) (n : Nat) {env env' : List (Nat × FV)} {S S1 : List Ob} {nt pin : Nat} (he : keepE env ks = some env') (hS : S.take n = S1) (hn : S1.length = n) (h1 : belowE n env' = true) (h2 : belowS n S1 = true) (hp : pin ≤ n) :
    Gh ⟨env, S, nt, pin⟩ ⟨env', S1, nt, pin⟩ := by
  have := Gh.cut (s := ⟨env, S, nt, pin⟩) ks S1 (S.drop n) (env := env') he (by rw [← hS]; simp) (by rw [hn]; exact h1) (by rw [hn]; exact h2) (by rw [hn]; exact hp)
  exact this

def renE (σ : Nat → Nat) : List (Nat × FV) → List (Nat × FV)
  | [] => []
  | (t, x) :: r => (t, ren σ x) :: renE σ r
theorem get_renE {σ : Nat → Nat} : ∀ {e : List (Nat × FV)} {t : Nat} {x : FV}, get e t = some x → get (renE σ e) t = some (ren σ x)
  | [], t, x, h => by simp [get] at h
  | (k, y) :: r, t, x, h => by
    simp only [get, renE] at h ⊢
    by_cases hk : k = t
    · rw [if_pos hk] at h ⊢; cases h; rfl
    · rw [if_neg hk] at h ⊢; exact get_renE h
def pickS (S : List Ob) : List Nat → Option (List Ob)
  | [] => some []
  | i :: r => (S[i]?).bind fun o => (pickS S r).map (o :: ·)
theorem pickS_get {S : List Ob} : ∀ {p : List Nat} {S1 : List Ob}, pickS S p = some S1 → S1.length = p.length ∧ ∀ (j i : Nat) (o : Ob), p[j]? = some i → S1[j]? = some o → S[i]? = some o
  | [], S1, h => by simp [pickS] at h; subst h; simp
  | i :: r, S1, h => by
    simp only [pickS, Option.bind_eq_some_iff, Option.map_eq_some_iff] at h
    obtain ⟨o, ho, q, hq, rfl⟩ := h
    obtain ⟨h1, h2⟩ := pickS_get hq
    refine ⟨by simp [h1], fun j i' o' hj ho' => ?_⟩
    cases j with
    | zero => simp at hj ho'; subst hj; subst ho'; exact ho
    | succ j => exact h2 j i' o' (by simpa using hj) (by simpa using ho')
theorem renOs_at {σ : Nat → Nat} : ∀ {S : List Ob} {j : Nat} {o : Ob}, S[j]? = some o → (renOs σ S)[j]? = some (renO σ o)
  | [], j, o, h => by simp at h
  | x :: r, 0, o, h => by simp at h; subst h; simp [renOs]
  | x :: r, j + 1, o, h => by simp only [renOs, List.getElem?_cons_succ]; exact renOs_at (by simpa using h)
theorem renOs_len {σ : Nat → Nat} : ∀ {S : List Ob}, (renOs σ S).length = S.length
  | [] => rfl
  | x :: r => by simp [renOs, renOs_len]

/-- Slots ks and objects perm are kept, in that order; at a state that is spelt. -/
theorem Gh.pick (ks perm : List Nat) {env env1 env' : List (Nat × FV)} {S S1 S' : List Ob} {nt pin : Nat} (he : keepE env ks = some env1) (h1 : renE (σ0 S.length perm) env' = env1) (hn : perm.Nodup) (hlt : ∀ i ∈ perm, i < S.length)
    (hS : pickS S perm = some S1) (h2 : renOs (σ0 S.length perm) S' = S1) (hp : ∀ i, i < pin → perm[i]? = some i) : Gh ⟨env, S, nt, pin⟩ ⟨env', S', nt, pin⟩ := by
  obtain ⟨h3, h4⟩ := pickS_get hS
  refine Gh.renum (s := ⟨env, S, nt, pin⟩) perm hn hlt (fun t x hx => ?_) ⟨?_, fun j i c hj hc => ?_⟩ hp
  · have := get_renE (σ := σ0 S.length perm) hx
    rw [h1] at this
    exact keepE_get he _ _ this
  · rw [← h3, ← h2, renOs_len]
  · refine h4 j i _ hj ?_
    rw [← h2]
    exact renOs_at hc

theorem Gh.same (h : s = s') : Gh s s' := h ▸ Gh.refl s

/-- A loop that counts up to n: st k is the state at its head before round k. -/
theorem WpC.count (n : Nat) (st : Nat → St) (h0 : Gh s (st 0))
    (hr : ∀ k, k ≤ n → WpC P c (st k) (fun e s' => match e with | .normal => k < n ∧ Gh s' (st (k + 1)) | e => Q e s')) : WpC P (.loop c) s Q :=
  WpC.gh h0 (WpC.loop (fun m s => ∃ k, k + m = n ∧ s = st k) n ⟨0, by omega, rfl⟩ fun m s1 ⟨k, hk, he⟩ => by
    subst he
    refine WpC.post (hr k (by omega)) fun e s1 h => ?_
    cases e with
    | normal => exact ⟨_, h.2, m - 1, by omega, k + 1, by omega, rfl⟩
    | _ => exact ⟨_, Gh.refl _, h⟩)

/-- A loop that counts up to n, with what holds at its head before round k. -/
theorem WpC.countP (n : Nat) (J : Nat → St → Prop) (h0 : ∃ s0, Gh s s0 ∧ J 0 s0)
    (hr : ∀ k s, k ≤ n → J k s → WpC P c s (fun e s' => match e with | .normal => k < n ∧ ∃ s1, Gh s' s1 ∧ J (k + 1) s1 | e => Q e s')) : WpC P (.loop c) s Q := by
  obtain ⟨s0, g0, j0⟩ := h0
  refine WpC.gh g0 (WpC.loop (fun m s => ∃ k, k + m = n ∧ J k s) n ⟨0, by omega, j0⟩ fun m s1 ⟨k, hk, hj⟩ => ?_)
  refine WpC.post (hr k s1 (by omega) hj) fun e s1 h => ?_
  cases e with
  | normal =>
    obtain ⟨h1, s2, h2, h3⟩ := h
    exact ⟨s2, h2, m - 1, by omega, k + 1, by omega, h3⟩
  | _ => exact ⟨_, Gh.refl _, h⟩

/-- A loop with what holds at its head, and a measure. -/
theorem WpC.while (J : Nat → St → Prop) (n : Nat) (h0 : ∃ s0, Gh s s0 ∧ J n s0)
    (hr : ∀ n s, J n s → WpC P c s (fun e s' => match e with | .normal => ∃ m, m < n ∧ ∃ s1, Gh s' s1 ∧ J m s1 | e => Q e s')) : WpC P (.loop c) s Q := by
  obtain ⟨s0, g0, j0⟩ := h0
  refine WpC.gh g0 (WpC.loop J n j0 fun m s1 hj => ?_)
  refine WpC.post (hr m s1 hj) fun e s1 h => ?_
  cases e with
  | normal =>
    obtain ⟨m', h1, s2, h2, h3⟩ := h
    exact ⟨s2, h2, m', h1, h3⟩
  | _ => exact ⟨_, Gh.refl _, h⟩
end

/-! ### Arithmetic that does not wrap; lists that are gone through -/

theorem wrapI {n : Int} (h1 : -9223372036854775808 ≤ n) (h2 : n ≤ 9223372036854775807) : IntKind.i64.wrap n = n := by
  simp [IntKind.wrap, IntKind.bits, IntKind.signed]
  omega
theorem wrapI_in (n : Int) : -9223372036854775808 ≤ IntKind.i64.wrap n ∧ IntKind.i64.wrap n ≤ 9223372036854775807 := by
  simp [IntKind.wrap, IntKind.bits, IntKind.signed]
  omega

/-- A number that an int holds. -/
def inI (n : Int) : Prop := -9223372036854775808 ≤ n ∧ n ≤ 9223372036854775807

theorem foldl_take {α β : Type} (f : β → α → β) (b : β) {l : List α} {k : Nat} (h : k < l.length) : (l.take (k + 1)).foldl f b = f ((l.take k).foldl f b) l[k] := by
  rw [List.take_add_one, List.getElem?_eq_getElem h]; simp only [Option.toList_some, List.foldl_append, List.foldl_cons, List.foldl_nil]
theorem map_take {α β : Type} (f : α → β) {l : List α} {k : Nat} (h : k < l.length) : (l.take (k + 1)).map f = (l.take k).map f ++ [f l[k]] := by
  rw [List.take_add_one, List.getElem?_eq_getElem h]; simp only [Option.toList_some, List.map_append, List.map_cons, List.map_nil]
theorem drop_cons {α : Type} {l : List α} {k : Nat} (h : k < l.length) : l.drop k = l[k] :: l.drop (k + 1) := List.drop_eq_getElem_cons h
end Go.Proofs.Ytaobnhenjldjeaa.Pay
/- Regions that draw their order, of operations that turn no memory; calls; rules for often used forms. No statement of the seed is proved here. -/
namespace Go.Proofs.Ytaobnhenjldjeaa.Pay
open Go Go.RowKit
set_option linter.unusedVariables false
set_option linter.unusedSimpArgs false

section
variable {P : Program} {T : Nat → Option TI} {w w' : World} {I I' : Nat → Prop} {L L' : List Lay} {s s' s1 : St} {a : Act} {all : Array Oper} {o : Oper} {rest : List Oper} {Q : Exit → St → Prop} {c : Code}

/-- Operations that turn no memory, one behind the other. -/
def evPs (T : Nat → Option TI) (all : Array Oper) : List Oper → St → Option St
  | [], s => some s
  | o :: l, s => (wantS all s o).bind fun b => ((if b = true then (evA T s o.op).bind fun x => setS s o.dst x else setS s o.dst (.tup [])) : Option St).bind fun s' => evPs T all l s'

theorem quiet_ok (hT : TabOk P T) : ∀ {l : List Oper} {s s' : St} {a : Act}, SR w I L s a → evPs T all l s = some s' → ∀ {K : Act → Prop}, (∀ a', SR w I L s' a' → s'.S = s.S → s'.pin = s.pin → K a') → wpQuiet P all (· = w) K l a
  | [], s, s', a, hs, h, K, hK => by simp [evPs] at h; subst h; exact hK a hs rfl rfl
  | o :: l, s, s', a, hs, h, K, hK => by
    simp only [evPs, Option.bind_eq_some_iff] at h
    obtain ⟨b, hb, s1, h1, h2⟩ := h
    unfold wpQuiet
    rw [hs.want hb]
    cases b with
    | true =>
      simp only [if_true, Option.bind_eq_some_iff] at h1 ⊢
      obtain ⟨x, hx, hset⟩ := h1
      obtain ⟨v, hv, hr⟩ := evA_ok hT hs hx
      obtain ⟨e1, e2, e3⟩ := hs.put hr hset
      refine ⟨v, fun w' hw' => ?_, ?_⟩
      · subst hw'
        unfold Oper.quietAt
        rw [hv]
        exact ⟨rfl, rfl⟩
      · exact quiet_ok hT e1 h2 fun a' q1 q2 q3 => hK a' q1 (q2.trans e2) (q3.trans e3)
    | false =>
      simp only [Bool.false_eq_true, if_false] at h1 ⊢
      have hx : VRel w I L (.tup []) undef := by simp only [VRel, VRelL]; exact ⟨[], rfl, rfl⟩
      obtain ⟨e1, e2, e3⟩ := hs.put hx h1
      exact quiet_ok hT e1 h2 fun a' q1 q2 q3 => hK a' q1 (q2.trans e2) (q3.trans e3)

/-- A region that draws its order. -/
theorem WpC.opsD (hT : TabOk P T) (hm : P.follows .mixedOrders = true) {id : Nat} {ops : Array Oper} (hB : Region.lexB .any ops = true) (h : evPs T ops ops.toList s = some s') (k : Q .normal s') : WpC P (.region id ops true) s Q := fun w I L a hs => by
  have hw : SR { w with drawn := w.drawn + 1 } I L s a := hs.world (fun _ _ => rfl) (fun _ _ => rfl) (Nat.le_refl _)
  refine wp_region_quiet (C := (· = { w with drawn := w.drawn + 1 })) hm hB rfl ?_
  refine quiet_ok hT hw h fun a' h1 h2 h3 w' hw' => ?_
  subst hw'
  refine ⟨s', I, L, k, h1, ⟨⟨rfl, rfl, rfl, Nat.le_refl _, fun _ _ _ => rfl, fun _ h => h, fun _ h => .inl h, fun b hb => .inl ?_⟩, h3, fun _ _ => rfl⟩⟩
  rwa [h2] at hb

/-! ### Objects handed to a call; ghosts -/

theorem passOk_of {S S1 cS : List Ob} {perm : List Nat} (hS : pickS S perm = some S1) (h2 : renOs (σ0 S.length perm) cS = S1) : PassOk S perm cS := by
  obtain ⟨h3, h4⟩ := pickS_get hS
  refine ⟨by rw [← h3, ← h2, renOs_len], fun j i c hj hc => h4 j i _ hj ?_⟩
  rw [← h2]
  exact renOs_at hc

/-- A call that hands over objects. -/
theorem WpO.callP {fx : Operand} {args : Array Operand} {ts : Array TypeId} {g : FuncId} {caps xs : List FV} (perm : List Nat) (hw : wantS all s o = some true) (ho : o.op = .call { callee := .value fx, args, argTypes := ts })
    (hf : evX s fx = some (.fn g caps)) (hx : evXs s args.toList = some xs) (hc : Callable P g) (hp : s.pin ≤ s.S.length)
    (hn : perm.Nodup) (hlt : ∀ i ∈ perm, i < s.S.length) {cargs : List FV} {cS Sx : List Ob} (ha : ArgsOk s.S perm (xs ++ caps) cargs) (hS : pickS s.S perm = some Sx) (h2 : renOs (σ0 s.S.length perm) cS = Sx)
    {R : FV → List Ob → Prop} (hcall : WpF P g cargs cS R)
    (hrest : ∀ r S1, R r S1 → ∃ s', setS { s with S := setAll s.S perm (renOs (σ1 s.S.length perm) (S1.take perm.length)) ++ renOs (σ1 s.S.length perm) (S1.drop perm.length) } o.dst (ren (σ1 s.S.length perm) r) = some s' ∧ WpO P all rest s' Q) :
    WpO P all (o :: rest) s Q := WpO.call hw ho hf hx hc hp perm hn hlt ha (passOk_of hS h2) hcall hrest

/-- As Gh.pick, all slots kept: none names an object from n on. -/
theorem Gh.pickE (n : Nat) (perm : List Nat) {env : List (Nat × FV)} {S S1 S' : List Ob} {nt pin : Nat} (hb : belowE n env = true) (hid : ∀ i, i < n → perm[i]? = some i) (hn : perm.Nodup) (hlt : ∀ i ∈ perm, i < S.length)
    (hS : pickS S perm = some S1) (h2 : renOs (σ0 S.length perm) S' = S1) (hp : pin ≤ n) : Gh ⟨env, S, nt, pin⟩ ⟨env, S', nt, pin⟩ := by
  have hσ : ∀ i, i < n → σ0 S.length perm i = i := by
    intro i hi
    simp [σ0, List.getD, hid i hi]
  refine Gh.renum (s := ⟨env, S, nt, pin⟩) perm hn hlt (fun t x hx => ?_) (passOk_of hS h2) (fun i hi => hid i (Nat.lt_of_lt_of_le hi hp))
  rw [ren_below hσ (belowE_get hb hx)]
  exact hx

/-- The nil slice in a variable is a row of the call's own. -/
theorem Gh.nilCell {id off t : Nat} {cs : List FV} (e k : Nat) (hS : s.S[id]? = some (.cells t cs)) (hx : cs[off]? = some (.d .nil)) (hp : s.pin ≤ s.S.length) :
    Gh s { s with S := s.S.set id (.cells t (cs.set off (.sl s.S.length 0))) ++ [.arr e k []] } := fun w I L a hs => by
  have hor : ORel w I (L ++ [.a none 0]) (.arr e k []) (.a none 0) := .inl ⟨none, 0, [], rfl, World.ownsRow_nil w 0 e k, by simp [DRelR]⟩
  have r1 := hs.more (w' := w) (fun _ _ => rfl) (Nat.le_refl _) hor (fun b hb => by simp [own] at hb) (own_nodup _ _)
  have r2 := Step.more (w' := w) hs (fun _ _ => rfl) rfl rfl rfl (Nat.le_refl _) (o := .arr e k []) (l := .a none 0) (fun b hb => by simp [own] at hb) hp
  have hlt : id < s.S.length := (List.getElem?_eq_some_iff.1 hS).1
  have hll : id < L.length := by rw [hs.len]; exact hlt
  obtain ⟨l, hl⟩ : ∃ l, L[id]? = some l := ⟨L[id], List.getElem?_eq_getElem hll⟩
  have hown : ∀ l, own (.cells t (cs.set off (.sl s.S.length 0))) l = own (.cells t cs) l := fun l => by cases l <;> rfl
  have howns : owns (s.S.set id (.cells t (cs.set off (.sl s.S.length 0))) ++ [.arr e k []]) (L ++ [.a none 0]) = owns (s.S ++ [.arr e k []]) (L ++ [.a none 0]) := by
    rw [show s.S.set id (.cells t (cs.set off (.sl s.S.length 0))) ++ [Ob.arr e k []] = (s.S ++ [Ob.arr e k []]).set id (.cells t (cs.set off (.sl s.S.length 0))) from (List.set_append_left _ _ hlt).symm]
    exact owns_set (by rw [List.getElem?_append_left hlt]; exact hS) (by rw [List.getElem?_append_left hll]; exact hl) (hown _)
  refine ⟨I, L ++ [.a none 0], ⟨r1.env, r1.nt, by simp [hs.len], ?_, by rw [howns]; exact r1.nodup, by rw [howns]; exact r1.sep, r1.imm, r1.defers⟩, ⟨⟨r2.evo.os, r2.evo.tape, r2.evo.output, r2.evo.size, r2.evo.keep, r2.evo.imm, r2.evo.immNew, by
    show ∀ b ∈ owns (s.S.set id (.cells t (cs.set off (.sl s.S.length 0))) ++ [.arr e k []]) (L ++ [.a none 0]), _
    rw [howns]; exact r2.evo.own⟩, r2.pin, r2.lay⟩⟩
  intro j oj lj h1 h2
  have h1' : (s.S.set id (.cells t (cs.set off (.sl s.S.length 0))) ++ [.arr e k []])[j]? = some oj := h1
  rw [show s.S.set id (.cells t (cs.set off (.sl s.S.length 0))) ++ [Ob.arr e k []] = (s.S ++ [Ob.arr e k []]).set id (.cells t (cs.set off (.sl s.S.length 0))) from (List.set_append_left _ _ hlt).symm] at h1'
  by_cases hj : id = j
  · subst hj
    rw [List.getElem?_set_self (by simp; omega)] at h1'
    cases h1'
    have h3 := r1.obs id (.cells t cs) lj (by show (s.S ++ [_])[id]? = _; rw [List.getElem?_append_left hlt]; exact hS) h2
    obtain ⟨b, vs, rfl, hb, ho, hr⟩ := h3
    refine ⟨b, vs, rfl, hb, ho, ?_⟩
    obtain ⟨v, hv, hd⟩ := hr.get off _ hx
    simp only [VRel, DRel] at hd
    subst hd
    have := hr.set off (x := .sl s.S.length 0) (v := .slice none 0 0) (by
      simp only [VRel]
      exact ⟨.a none 0, none, 0, by rw [List.getElem?_append_right (by rw [hs.len]; exact Nat.le_refl _), hs.len]; simp, rfl, rfl⟩)
    have hsame : vs.set off (Value.slice none 0 0) = vs := by
      apply List.ext_getElem?
      intro q
      rw [List.getElem?_set]
      by_cases hq : off = q
      · subst hq
        rw [if_pos rfl, if_pos (List.getElem?_eq_some_iff.1 hv).1, hv]
      · rw [if_neg hq]
    rwa [hsame] at this
  · rw [List.getElem?_set_ne hj] at h1'
    exact r1.obs j oj lj h1' h2

/-- Two ways come together. -/
theorem WpC.join (st : St) (h : WpC P c s (fun e s1 => e = .normal ∧ Gh s1 st)) (k : Q .normal st) : WpC P c s Q :=
  WpC.post h fun _ _ ⟨he, g⟩ => ⟨st, g, he ▸ k⟩

/-- One operation. -/
def evOne (T : Nat → Option TI) (all : Array Oper) (o : Oper) (s : St) : Option St := (wantS all s o).bind fun b => if b = true then evOp T o s else setS s o.dst (.tup [])

theorem WpO.one (hT : TabOk P T) (h : evOne T all o s = some s') (k : WpO P all rest s' Q) : WpO P all (o :: rest) s Q := by
  simp only [evOne, Option.bind_eq_some_iff] at h
  obtain ⟨b, hb, h1⟩ := h
  cases b with
  | true => exact WpO.step hb (evOp_ok hT (by simpa using h1)) k
  | false => exact WpO.skip hb (by simpa using h1) k

/-! ### Equal structs -/

/-- Structs of type t, of such cells, are compared: b. -/
structure EqT (P : Program) (t : TypeId) (xs ys : List D) (b : Bool) : Prop where
  guard : P.eqGuardType P.depth t = false
  eq : ∀ (w : World) (I : Nat → Prop) (vs us : List Value), DRelL w I xs vs → DRelL w I ys us → (Op.equal t (.agg vs.toArray) (.agg us.toArray)).run P w = .ok b w

def eqOp (neg : Bool) : BinOp := if neg = true then .neq else .eql

theorem WpO.eqS {t ty : TypeId} {x y : Operand} {xs ys : List D} {b : Bool} (neg : Bool) (hw : wantS all s o = some true) (ho : o.op = .binOp (eqOp neg) t x y ty) (hx : evX s x = some (.d (.agg xs))) (hy : evX s y = some (.d (.agg ys)))
    (hE : EqT P t xs ys b) (hset : setS s o.dst (.d (.bool (b ^^ neg))) = some s') (k : WpO P all rest s' Q) : WpO P all (o :: rest) s Q := by
  refine WpO.step hw (fun w I L a hs => ?_) k
  have h1 := hs.evX hx
  have h2 := hs.evX hy
  simp only [VRel, DRel] at h1 h2
  obtain ⟨vs, h1, _, h3⟩ := h1
  obtain ⟨us, h2, _, h4⟩ := h2
  have he := hE.eq w I vs us h3 h4
  have hrun : (execOp a.eval o).run P w = .ok (.value (.bool (b ^^ neg))) w := by
    unfold execOp
    cases neg
    · simp [ho, eqOp, eqGuard, h1, h2, hE.guard, binOp, he]
    · simp [ho, eqOp, eqGuard, h1, h2, hE.guard, binOp, he]
  obtain ⟨e1, e2, e3⟩ := hs.put (x := .d (.bool (b ^^ neg))) (v := .bool (b ^^ neg)) (by simp only [VRel, DRel]) hset
  refine ⟨_, w, I, L, _, hrun, .inl rfl, e1, ⟨?_, e3, fun _ _ => rfl⟩⟩
  rw [e2]; exact Evo.refl _ _ _

/-! ### Data that may be taken for other data -/

def D.leL : List D → List D → Prop
  | [], [] => True
  | x :: r, y :: q => (x = y ∨ (x = .nil ∧ ∃ k, y = .list k [])) ∧ D.leL r q
  | _, _ => False
def FV.le (x y : FV) : Prop := x = y ∨ (x = .d .nil ∧ ∃ k, y = .d (.list k [])) ∨ ∃ cs ds, x = .d (.agg cs) ∧ y = .d (.agg ds) ∧ D.leL cs ds
def leA : List FV → List FV → Prop
  | [], [] => True
  | x :: r, y :: q => FV.le x y ∧ leA r q
  | _, _ => False

theorem nil_list {k : Nat} {v : Value} (h : DRel w I .nil v) : DRel w I (.list k []) v := by
  simp only [DRel] at h ⊢
  exact ⟨none, 0, by simpa using h, by simp, .inl trivial⟩
theorem leL_ok : ∀ {cs ds : List D} {vs : List Value}, D.leL cs ds → DRelL w I cs vs → DRelL w I ds vs
  | [], [], vs, _, h => h
  | x :: r, y :: q, vs, hl, h => by
    simp only [DRelL] at h ⊢
    obtain ⟨v, u, rfl, h1, h2⟩ := h
    refine ⟨v, u, rfl, ?_, leL_ok hl.2 h2⟩
    rcases hl.1 with rfl | ⟨rfl, k, rfl⟩
    · exact h1
    · exact nil_list h1
  | [], _ :: _, _, hl, _ => hl.elim
  | _ :: _, [], _, hl, _ => hl.elim
theorem le_ok {x y : FV} {v : Value} (hl : FV.le x y) (h : VRel w I L x v) : VRel w I L y v := by
  rcases hl with rfl | ⟨rfl, k, rfl⟩ | ⟨cs, ds, rfl, rfl, hl⟩
  · exact h
  · simp only [VRel] at h ⊢; exact nil_list h
  · simp only [VRel, DRel] at h ⊢
    obtain ⟨vs, h1, h2, h3⟩ := h
    exact ⟨vs, h1, h2, leL_ok hl h3⟩
theorem leA_ok : ∀ {xs ys : List FV} {vs : List Value}, leA xs ys → VRelL w I L xs vs → VRelL w I L ys vs
  | [], [], vs, _, h => h
  | x :: r, y :: q, vs, hl, h => by
    simp only [VRelL] at h ⊢
    obtain ⟨v, u, rfl, h1, h2⟩ := h
    exact ⟨v, u, rfl, le_ok hl.1 h1, leA_ok hl.2 h2⟩
  | [], _ :: _, _, hl, _ => hl.elim
  | _ :: _, [], _, hl, _ => hl.elim

theorem WpF.le {f : FuncId} {xs ys : List FV} {S : List Ob} {R : FV → List Ob → Prop} (h : WpF P f ys S R) (hl : leA xs ys) : WpF P f xs S R := fun w I L vs ha hO => h w I L vs (leA_ok hl ha) hO
end
end Go.Proofs.Ytaobnhenjldjeaa.Pay
