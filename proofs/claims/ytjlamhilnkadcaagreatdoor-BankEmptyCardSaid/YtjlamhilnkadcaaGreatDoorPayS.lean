/- The copy of elements into a row of the call's own. No statement of the seed is proved here. -/
import Derived.Test.YtjlamhilnkadcaaGreatDoorPayJ
import Derived.Lib.Overlaps
namespace Go.Proofs.YtjlamhilnkadcaaGreatDoor.Pay
open Go Go.RowKit
set_option linter.unusedVariables false
set_option linter.unusedSimpArgs false

section
variable {P : Program} {T : Nat → Option TI} {w w' : World} {I : Nat → Prop} {L : List Lay} {s s' : St} {a : Act}

/-- What is copied: the elements that are known, and how many there are. -/
def srcC (s : St) (k : Nat) (y : FV) : Option (List D × Nat) := match y with
  | .so id k' off n => (match s.S[id]? with
    | some (.arr _ k2 xs) => if k' = k ∧ k2 = k then some ((xs.drop off).take n, n) else none
    | _ => none)
  | y => (srcV s k y).map fun ys => (ys, ys.length)

def evCo (T : Nat → Option TI) (s : St) (t : TypeId) (x y : FV) : Option (List Ob × Nat) :=
  (T t).bind fun i => match i.kind, x with
  | .slice e, .so id k off n => (T e).bind fun ei => (srcC s ei.size y).bind fun q => (match s.S[id]? with
    | some (.arr e' k' xs) => if e' = e ∧ k = ei.size ∧ k' = ei.size ∧ off ≤ xs.length ∧ min q.2 n ≤ q.1.length then
        some (s.S.set id (.arr e' k' (xs.take off ++ q.1.take (min q.2 n) ++ xs.drop (off + min q.2 n))), min q.2 n) else none
    | _ => none)
  | _, _ => none

theorem srcC_ok (hs : SR w I L s a) {k : Nat} {y : FV} {v : Value} {q : List D × Nat} (hy : VRel w I L y v) (h : srcC s k y = some q) :
    ∃ hd c us, v = .slice hd q.2 c ∧ DRelR w I k q.1 us ∧ (us = [] ∨ ∃ b o, hd = some ⟨b, o, none⟩ ∧ CellsAt w b o us) ∧ (hd = none → q.1 = []) := by
  unfold srcC at h
  split at h
  · rename_i id k' off n
    split at h
    · rename_i e k2 xs hS
      split at h
      · rename_i hk
        obtain ⟨rfl, rfl⟩ := hk
        cases h
        simp only [VRel] at hy
        obtain ⟨l, hd, c, hl, hv, hle, hx⟩ := hy
        rcases hx with h0 | ⟨b, cap, rfl, rfl, hcap⟩
        · subst h0
          exact ⟨hd, c, [], hv, by simp [DRelR], .inl rfl, fun _ => by simp⟩
        · rcases hs.obs _ _ _ hS hl with ⟨base, cp, vs, he, hown, hr⟩ | ⟨hd', he, _⟩
          rotate_left
          · cases he
          cases he
          refine ⟨_, c, (vs.drop (off * k2)).take (n * k2), hv, (hr.drop off).take n, .inr ⟨b, off * k2, rfl, ?_⟩, fun e => by cases e⟩
          by_cases h0 : 0 < vs.length
          · obtain ⟨b', hb', hc'⟩ := ownsRow_cells hown h0
            cases hb'
            have := cellsAt_take (cellsAt_drop hc' (off * k2)) (n * k2)
            simpa using this
          · rw [List.eq_nil_of_length_eq_zero (show vs.length = 0 by omega)]
            intro j v hv; simp at hv
      · cases h
    · cases h
  · simp only [Option.map_eq_some_iff] at h
    obtain ⟨ys, hys, rfl⟩ := h
    exact srcV_ok hs hy hys

/-- A row of the call's own, written from a place on, within its room. -/
theorem ownsRow_put {e : TypeId} {k n cap b : Nat} {vs us : List Value} {p m : Nat} (h : w.ownsRow 0 e k (.slice (some ⟨b, 0, none⟩) n cap) n vs) (hp : p ≤ n) (hm : p + m ≤ cap) (hu : us.length = m * k) :
    ∃ cur : Array Value, w.heap[b]? = some (.cells cur e (0, 0)) ∧ p * k + us.length ≤ cur.size ∧
      (w.setRow b (cur.toList.take (p * k) ++ us ++ cur.toList.drop (p * k + us.length)).toArray).ownsRow 0 e k (.slice (some ⟨b, 0, none⟩) (max n (p + m)) cap) (max n (p + m)) (vs.take (p * k) ++ us ++ vs.drop ((p + m) * k)) := by
  obtain ⟨hl, h⟩ := h
  rcases h with ⟨h, _⟩ | ⟨g, cp, cur, he, _, hg, hn, hmx, hc, ht⟩
  · cases h
  · cases he
    have hpk : p * k ≤ n * k := Nat.mul_le_mul_right _ hp
    have hck : n * k ≤ cap * k := Nat.mul_le_mul_right _ hn
    have hmk : (p + m) * k ≤ cap * k := Nat.mul_le_mul_right _ hm
    have hadd : (p + m) * k = p * k + us.length := by rw [Nat.add_mul, hu]
    have hcs : cur.toList.length = cap * k := by rw [Array.length_toList, hc]
    have hmax : max n (p + m) * k = max (n * k) (p * k + us.length) := by
      rw [← hadd]
      by_cases h : n ≤ p + m
      · rw [Nat.max_eq_right h, Nat.max_eq_right (Nat.mul_le_mul_right _ h)]
      · rw [Nat.max_eq_left (by omega), Nat.max_eq_left (Nat.mul_le_mul_right _ (by omega))]
    refine ⟨cur, hg, by omega, ?_, .inr ⟨b, cap, _, rfl, Nat.zero_le _, setRow_heap w b cur _ e (0, 0) hg, by omega, hmx, ?_, ?_⟩⟩
    · rw [hmax, hadd]
      simp only [List.length_append, List.length_take, List.length_drop, hl]
      omega
    · simp only [List.size_toArray, List.length_append, List.length_take, List.length_drop, hcs]
      omega
    · rw [hmax, hadd, ← ht]
      apply List.ext_getElem?
      intro j
      simp only [List.getElem?_take, List.getElem?_append, List.getElem?_drop, List.length_append, List.length_take, hcs]
      have e1 : min (p * k) (cap * k) = p * k := by omega
      have e2 : min (p * k) (min (n * k) (cap * k)) = p * k := by omega
      rw [e1, e2]
      by_cases h1 : j < p * k
      · simp [h1, show j < max (n * k) (p * k + us.length) by omega, show j < p * k + us.length by omega, show j < n * k by omega]
      · by_cases h2 : j < p * k + us.length
        · simp [h1, h2, show j < max (n * k) (p * k + us.length) by omega]
        · by_cases h3 : j < n * k
          · simp [h2, show j < max (n * k) (p * k + us.length) by omega, show p * k + us.length + (j - (p * k + us.length)) < n * k by omega]
          · simp [h2, show ¬ j < max (n * k) (p * k + us.length) by omega, show ¬ p * k + us.length + (j - (p * k + us.length)) < n * k by omega]

theorem run_copy {dT sT ty e : TypeId} {i : TypeInfo} (hu : P.underlying dT = some (.slice e)) (hi : P.info? e = some i) {hd hd2 : Option Addr} {n c m c2 cnt : Nat} {us : List Value} (hcnt : min m n = cnt)
    (hus : us.length = cnt * i.size) (hn : hd2 = none → us = []) (hcs : us = [] ∨ ∃ b o, hd2 = some ⟨b, o, none⟩ ∧ CellsAt w b o us) :
    (Builtin.copy_ #[dT, sT] ty #[.slice hd n c, .slice hd2 m c2]).run P w = Result.andThen ((match hd with | some ad => storeCells ad us | none => pure ()).run P w) (fun _ w' => .ok (goInt cnt) w') := by
  have hl : (Builtin.firstCells i.size cnt (.slice hd2 m c2)).run P w = .ok us.toArray w := by
    cases hd2 with
    | none => rw [hn rfl]; rfl
    | some ad =>
      have hc : ∀ j v, us[j]? = some v → w.cell? (ad.add j) = some v := by
        intro j v hv
        rcases hcs with rfl | ⟨b, o, he, hc⟩
        · simp at hv
        · cases he
          simpa [Addr.add_lit] using hc j v hv
      have := run_loadCells_list (P := P) w ad us hc
      simp only [Builtin.firstCells]
      rw [← hus]; exact this
  have hmin : Nat.min m n = cnt := hcnt
  cases hd <;> simp [Builtin.copy_, run_underlying hu, Builtin.lenOf, sizeOf, typeInfo, hi, hmin, hl]

theorem OpOk.copy (hT : TabOk P T) {t u : TypeId} {dx yx : Operand} {vx vy : FV} {S' : List Ob} {n' : Nat} {o : Oper} (ho : o.op = .call { callee := .builtin .copy, args := #[dx, yx], argTypes := #[t, u] })
    (hx : evX s dx = some vx) (hy : evX s yx = some vy) (h : evCo T s t vx vy = some (S', n')) (hset : setS { s with S := S' } o.dst (.d (.int .i64 n')) = some s') : OpOk P o s s' := fun w I L a hs => by
  unfold evCo at h
  simp only [Option.bind_eq_some_iff] at h
  obtain ⟨i, hi, h⟩ := h
  have hI := (hT _ _ hi).kind
  split at h
  · rename_i e id k off n hk
    rw [hk] at hI
    simp only [TKOk] at hI
    simp only [Option.bind_eq_some_iff] at h
    obtain ⟨ei, hei, q, hq, h⟩ := h
    obtain ⟨tj, z, htj, q1, q2, q3, q4, q5⟩ := (hT _ _ hei).info
    split at h
    · rename_i e' k' xs hS
      split at h
      · rename_i hc
        obtain ⟨rfl, rfl, rfl, hoff, hmin⟩ := hc
        simp only [Option.some.injEq, Prod.mk.injEq] at h
        obtain ⟨rfl, rfl⟩ := h
        obtain ⟨hd2, c2, us, hvy, hus, hcs, hdn⟩ := srcC_ok hs (hs.evX hy) hq
        have hvx := hs.evX hx
        simp only [VRel] at hvx
        obtain ⟨l, hd, c, hl, hvx, hle, hxx⟩ := hvx
        generalize hcnt : min q.2 n = cnt at *
        have hus' := hus.take cnt
        have hul : (us.take (cnt * ei.size)).length = cnt * ei.size := by
          rw [hus'.length, List.length_take, Nat.min_eq_left hmin]
        have hone : Ones (us.take (cnt * ei.size)) := hus.ones.take _
        have hrun := run_copy (P := P) (w := w) (dT := t) (sT := u) (ty := o.type) hI htj (hd := hd) (hd2 := hd2) (n := n) (c := c) (m := q.2) (c2 := c2) (us := us.take (cnt * ei.size)) hcnt (by rw [q1]; exact hul)
          (fun e => by have h1 := hus.length; rw [hdn e] at h1; rw [List.eq_nil_of_length_eq_zero (show us.length = 0 by simpa using h1)]; simp)
          (by
            rcases hcs with rfl | ⟨b, o, he, hc⟩
            · left; simp
            · exact .inr ⟨b, o, he, cellsAt_take hc _⟩)
        have hxlen : (xs.take off).length = off := by rw [List.length_take]; omega
        have hqlen : (q.1.take cnt).length = cnt := by rw [List.length_take]; omega
        have exec : ∀ (w1 : World) (s1 : St), ((match hd with | some ad => storeCells ad (us.take (cnt * ei.size)) | none => pure ()).run P w) = .ok () w1 →
            SR w1 I L { s with S := s.S.set id (.arr e' ei.size (xs.take off ++ q.1.take cnt ++ xs.drop (off + cnt))) } a →
            Step w I L s w1 I L { s with S := s.S.set id (.arr e' ei.size (xs.take off ++ q.1.take cnt ++ xs.drop (off + cnt))) } →
            ∃ r w' I' L' v, (execOp a.eval o).run P w = .ok r w' ∧ (r = .value v ∨ r = .skip ∧ v = undef) ∧ SR w' I' L' s' (a.put o.dst v) ∧ Step w I L s w' I' L' s' := by
          intro w1 s1 hw1 h1 h2
          obtain ⟨r4, r5⟩ := put_step (v := goInt cnt) h1 h2 (by simp only [VRel, DRel, goInt]) hset
          refine ⟨_, w1, I, L, _, ?_, .inl rfl, r4, r5⟩
          rw [hw1] at hrun
          unfold execOp
          simp only [ho, resolve, invoke, builtin, Sem.run_bind, Sem.run_pure, Result.andThen_ok, List.map_toArray, List.map_cons, List.map_nil, hvx, hvy, hrun]
        by_cases h0 : cnt = 0
        · subst h0
          have hsame : s.S.set id (.arr e' ei.size (xs.take off ++ q.1.take 0 ++ xs.drop (off + 0))) = s.S := by
            apply List.ext_getElem?
            intro j
            by_cases hj : id = j
            · subst hj
              rw [List.getElem?_set_self (List.getElem?_eq_some_iff.1 hS).1, hS]
              simp
            · rw [List.getElem?_set_ne hj]
          refine exec w s ?_ ?_ ?_
          · simp only [Nat.zero_mul, List.take_zero]
            cases hd <;> rfl
          · rw [hsame]; exact hs
          · rw [hsame]; exact Step.refl _ _ _ _
        · rcases hxx with hn0 | ⟨b, cap, rfl, rfl, hcap⟩
          · omega
          rcases hs.obs _ _ _ hS hl with ⟨base, cp, vs, he, hown, hr⟩ | ⟨hd', he, _⟩
          rotate_left
          · cases he
          cases he
          obtain ⟨cur, hcur, hfit, hown'⟩ := ownsRow_put (p := off) (m := cnt) hown hoff (by omega) hul
          have hst := run_storeCells_at P b (off * ei.size) e' (us.take (cnt * ei.size)) 0 cur w hcur (by simpa using hfit) hone
          generalize hw' : w.setRow b (cur.toList.take (off * ei.size) ++ us.take (cnt * ei.size) ++ cur.toList.drop (off * ei.size + (us.take (cnt * ei.size)).length)).toArray = w' at *
          have hkeep : ∀ j, j < w.heap.size → j ∉ own (.arr e' ei.size xs) (.a (some b) cap) → w'.heap[j]? = w.heap[j]? := fun j _ hj => by
            rw [← hw']; exact setRow_other w b j _ (by simpa [own] using hj)
          have hII : ∀ j, I j → w'.heap[j]? = w.heap[j]? := fun j hj => hkeep j (hs.imm j hj) fun hb' => (hs.sep j (owns_mem hS hl j hb')).1 hj
          have hs1 : w'.heap.size = w.heap.size := by rw [← hw']; simp
          have hlen' : (xs.take off ++ q.1.take cnt ++ xs.drop (off + cnt)).length = max xs.length (off + cnt) := by
            simp only [List.length_append, hxlen, hqlen, List.length_drop]
            omega
          have hor : ORel w' I L (.arr e' ei.size (xs.take off ++ q.1.take cnt ++ xs.drop (off + cnt))) (.a (some b) cap) := by
            refine .inl ⟨some b, cap, vs.take (off * ei.size) ++ us.take (cnt * ei.size) ++ vs.drop ((off + cnt) * ei.size), rfl, ?_, DRelR.mono hII (fun _ h => h) _ _ _ (((hr.take off).append hus').append (hr.drop (off + cnt)))⟩
            rw [hlen']
            exact hown'
          refine exec w' s (by simpa using hst) (hs.upd hS hl (own_arr _ _ _ _ _) hkeep hs1 hor) (Step.upd hS hl (own_arr _ _ _ _ _) hkeep hs1 (by rw [← hw']; rfl) (by rw [← hw']; rfl) (by rw [← hw']; rfl))
      · cases h
    · cases h
  · cases h

theorem evCo_out {t : TypeId} {x y : FV} {p : List Ob × Nat} (h : evCo T s t x y = some p) : p.1.length = s.S.length ∧ ∀ i, (∀ id k off n, x = .so id k off n → i ≠ id) → p.1[i]? = s.S[i]? := by
  unfold evCo at h
  simp only [Option.bind_eq_some_iff] at h
  obtain ⟨i, hi, h⟩ := h
  split at h
  · simp only [Option.bind_eq_some_iff] at h
    obtain ⟨ei, hei, q, hq, h⟩ := h
    split at h
    · split at h
      · cases h
        exact ⟨by simp, fun j hj => List.getElem?_set_ne (Ne.symm (hj _ _ _ _ rfl))⟩
      · cases h
    · cases h
  · cases h
/-- Two rows of the call's own do not overlap. -/
theorem OpOk.over (hT : TabOk P T) {fx : Operand} {f : FuncId} {fn : Func} {x y : Operand} {t tb : TypeId} {i ei : TI} {e : TypeId} {ts : Array TypeId} {o : Oper} (ho : o.op = .call { callee := .value fx, args := #[x, y], argTypes := ts }) (hfx : evX s fx = some (.fn f []))
    (hf : P.funcs[f]? = some fn) (hname : (fn.name == "runtime.NumGoroutine") = false) (hb : fn.body.isNone = true) (hn : Extern.findNext fn = none) (he : Extern.find fn = some (Extern.SlicesOverlaps.overlaps #[t, t] #[tb])) (hi : T t = some i) (hk : i.kind = .slice e) (hei : T e = some ei)
    {id1 n1 id2 k off n2 e1 k1 e2 k2 : Nat} {xs1 xs2 : List D} (hx : evX s x = some (.sl id1 n1)) (hy : evX s y = some (.so id2 k off n2)) (h1 : s.S[id1]? = some (.arr e1 k1 xs1)) (h2 : s.S[id2]? = some (.arr e2 k2 xs2)) (hne : id1 ≠ id2)
    (hn1 : 0 < xs1.length) (hn2 : 0 < n2) (hk2 : 0 < k2) (hset : setS s o.dst (.d (.bool false)) = some s') : OpOk P o s s' := fun w I L a hs => by
  have hI := (hT _ _ hi).kind
  rw [hk] at hI
  simp only [TKOk] at hI
  have hvx := hs.evX hx
  have hvy := hs.evX hy
  have hvf := hs.evX hfx
  simp only [VRel, VRelL] at hvx hvy hvf
  obtain ⟨l1, hd1, cap1, hl1, hh1, hvx⟩ := hvx
  obtain ⟨l2, hd2, c2, hl2, hvy, _, hx2⟩ := hvy
  obtain ⟨_, hvf, rfl⟩ := hvf
  rcases hx2 with h0 | ⟨b2, cap2, rfl, rfl, hcap⟩
  · omega
  rcases hs.obs _ _ _ h1 hl1 with ⟨base1, cp1, vs1, rfl, hown1, hr1⟩ | ⟨hd', rfl, rfl⟩
  rotate_left
  · simp at hn1
  rcases hs.obs _ _ _ h2 hl2 with ⟨base2, cp2, vs2, q, hown2, hr2⟩ | ⟨hd', q, _⟩
  rotate_left
  · cases q
  cases q
  simp only [Lay.hdr, Option.some.injEq, Prod.mk.injEq] at hh1
  obtain ⟨rfl, rfl⟩ := hh1
  rcases hown1.2 with ⟨_, h0⟩ | ⟨g1, cpp1, cur1, q1, _, hg1, _⟩
  · omega
  rcases hown2.2 with ⟨q, _⟩ | ⟨g2, cpp2, cur2, q2, _, hg2, _, _, hc2, _⟩
  · simp [Lay.head] at q
  cases base1 with
  | none => simp [Lay.head] at q1
  | some b1 =>
    simp only [Lay.head, Option.map_some, Value.slice.injEq, Option.some.injEq, Addr.mk.injEq, and_true, true_and] at q1 q2
    obtain ⟨rfl, rfl⟩ := q1
    obtain ⟨rfl, rfl⟩ := q2
    have hbb : b1 ≠ b2 := fun q => by
      subst q
      exact owns_apart hs.nodup h1 hl1 h2 hl2 hne b1 (by simp [own]) (by simp [own])
    have hkB : cur2.size ≠ 0 := by
      rw [hc2]
      exact Nat.ne_of_gt (Nat.mul_pos (by omega) hk2)
    obtain ⟨r1, r2, r3⟩ := hs.put (x := .d (.bool false)) (v := .bool false) (by simp only [VRel, DRel]) hset
    refine ⟨_, w, I, L, .bool false, ?_, .inl rfl, r1, ⟨by rw [r2]; exact Evo.refl _ _ _, r3, fun _ _ => rfl⟩⟩
    have hrun := Lib.run_overlaps_apart (P := P) w t tb e hI ei.size (fun w => (hT _ _ hei).sizeOf) ⟨b1, 0, none⟩ ⟨b2, off * k, none⟩ n1 cp1 n2 c2 hbb e1 e2 cur1.size cur2.size
      (by simp [World.shape?, hg1]) (by simp [World.shape?, hg2]) hkB (by simp [World.frozen?, hg1]) (by simp [World.frozen?, hg1])
    have hcf : (callFunc f #[Value.slice (some ⟨b1, 0, none⟩) n1 cp1, Value.slice (some ⟨b2, off * k, none⟩) n2 c2]).run P w = .ok (.value (.bool false)) w := by
      rw [run_callFunc_extern hf hname hb hn he, hrun]; rfl
    unfold execOp
    simp only [ho, resolve, invoke, Deferred.ofValue, Sem.run_bind, Sem.run_pure, Result.andThen_ok, List.map_toArray, List.map_cons, List.map_nil, hvx, hvy, hvf, Lay.head, Option.map_some, Array.append_empty, Array.empty_append]
    exact hcf

/-- A row's capacity, whatever it is. -/
theorem WpC.capK {c : Code} {Q : Exit → St → Prop} (t : Nat) {id n : Nat} {e k : Nat} {xs : List D} (hx : get s.env t = some (.sl id n)) (hS : s.S[id]? = some (.arr e k xs)) (hn : n ≤ xs.length)
    (h : ∀ c1, n ≤ c1 → c1 ≤ 9223372036854775807 → WpC P c { s with env := (t, .sc id n c1) :: s.env } Q) : WpC P c s Q := fun w I L a hs => by
  have hv := hs.env _ _ hx
  simp only [VRel] at hv
  obtain ⟨l, hd, cap, hl, hh, hv⟩ := hv
  have hcap := (sl_cap hs hS hl hh).1
  have hmx : cap ≤ maxLen := by
    rcases hs.obs _ _ _ hS hl with ⟨base, cp, vs, rfl, hown, _⟩ | ⟨hd', rfl, _⟩
    · simp only [Lay.hdr, Option.some.injEq, Prod.mk.injEq] at hh
      obtain ⟨rfl, rfl⟩ := hh
      rcases hown.2 with ⟨q, _⟩ | ⟨g, cpp, cur, q, _, _, _, hm, _⟩
      · simp only [Value.slice.injEq] at q; omega
      · simp only [Value.slice.injEq] at q; omega
    · simp only [Lay.hdr, Option.some.injEq, Prod.mk.injEq] at hh
      omega
  have hs' : SR w I L { s with env := (t, .sc id n cap) :: s.env } a := ⟨fun t' z hz => by
      simp only [get] at hz
      by_cases ht : t = t'
      · rw [if_pos ht] at hz
        cases hz; subst ht
        simp only [VRel]
        exact ⟨l, hd, hl, hh, hv⟩
      · rw [if_neg ht] at hz
        exact hs.env t' z hz, hs.nt, hs.len, hs.obs, hs.nodup, hs.sep, hs.imm, hs.defers⟩
  refine wp_mono (h cap (by omega) (by simpa [maxLen] using hmx) w I L a hs') fun e a1 w1 hp => ?_
  exact hp.from (s1 := { s with env := (t, .sc id n cap) :: s.env }) ⟨Evo.refl _ _ _, rfl, fun _ _ => rfl⟩
end
end Go.Proofs.YtjlamhilnkadcaaGreatDoor.Pay
