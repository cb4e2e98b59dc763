/- Acts, one by one: what is kept. No statement of the seed is proved here. -/
import Derived.Test.YtndofikacmhejaaMaO
namespace Go.Proofs.Ytndofikacmhejaa.Pay
open Go Go.RowKit
set_option linter.unusedVariables false
set_option linter.unusedSimpArgs false

section
variable {m : List Per} {D : List Act}
theorem hire_bad {id : Int} {r : Rec} (h : hireBad id r = false) : (1 ≤ id ∧ id ≤ 2147483647) ∧ 22800 ≤ r.frm ∧ r.frm ≤ 35999 := by
  simp only [hireBad, rightB, periodB, Bool.or_eq_false_iff, Bool.not_eq_false', Bool.and_eq_true, decide_eq_true_eq, decide_eq_false_iff_not] at h
  obtain ⟨⟨h1, h2⟩, h3, ⟨h4, h5⟩, h6⟩ := h
  exact ⟨by omega, h4⟩
theorem pOf_at (h : Inv m D) {id : Int} (hi : -9223372036854775808 ≤ id ∧ id ≤ 9223372036854775807) (hb : srchB (perCmp id) m = true) : ∃ hk : srch (perCmp id) m < m.length, m[srch (perCmp id) m].id = id ∧ (m[srch (perCmp id) m]?).getD noPer = m[srch (perCmp id) m] := by
  obtain ⟨p, hp, rfl⟩ := (h.srt.there hi).1 hb
  obtain ⟨k, hk, rfl⟩ := List.getElem_of_mem hp
  have := h.srt.at hk
  refine ⟨by rw [this]; exact hk, ?_, ?_⟩
  · simp only [this]
  · rw [List.getElem?_eq_getElem (by rw [this]; exact hk)]; rfl

theorem inv_hire (h : Inv m D) {a : Act} (ha : a.in64) (hk : a.kind = 1) (he : (hireS m a.id a.rcd).2 = 0) : Inv (hireS m a.id a.rcd).1 (D ++ [a]) := by
  unfold hireS at he ⊢
  split at he
  · simp at he
  · rename_i hbad
    rw [if_neg hbad]
    split at he
    · simp at he
    · rename_i hth
      rw [if_neg hth]
      split at he
      · simp at he
      · rename_i h50
        rw [if_neg h50]
        obtain ⟨hid, hf⟩ := hire_bad (by simpa using hbad)
        have hbf : srchB (perCmp a.id) m = false := by simpa using hth
        obtain ⟨i, hi⟩ : ∃ i, srch (perCmp a.id) m = i := ⟨_, rfl⟩
        obtain ⟨p, hp⟩ : ∃ p : Per, p = ⟨a.id, a.rcd.frm, 0, [a.rcd], []⟩ := ⟨_, rfl⟩
        have hins := ins_srt (y := p) (x := a.id) h.srt.1 (h.srt.cmp hid) hbf (by rw [hp])
        have hno : ∀ q ∈ m, q.id ≠ a.id := fun q hq he => by
          have := (h.srt.there ha).2 ⟨q, hq, he⟩
          rw [hbf] at this; cases this
        have hnh : ¬ 0 ≤ hiredI D a.id := fun q => by
          obtain ⟨p, hp, he⟩ := (h.hired a.id).1 q
          exact hno p hp he
        rw [hi] at hins ⊢
        rw [← hp]
        have hmem : ∀ q, q ∈ m.take i ++ p :: m.drop i → q = p ∨ q ∈ m := fun q hq => by
          rcases List.mem_append.1 hq with hq | hq
          · exact .inr (List.mem_of_mem_take hq)
          · rcases List.mem_cons.1 hq with rfl | hq
            · exact .inl rfl
            · exact .inr (List.mem_of_mem_drop hq)
        have hmem2 : ∀ q, q ∈ m → q ∈ m.take i ++ p :: m.drop i := fun q hq => by
          rw [← List.take_append_drop i m] at hq
          rcases List.mem_append.1 hq with hq | hq
          · exact List.mem_append_left _ hq
          · exact List.mem_append_right _ (List.mem_cons_of_mem _ hq)
        have hpid : p.id = a.id := by rw [hp]
        have hold : ∀ q ∈ m, 0 ≤ hiredI D q.id := fun q hq => (h.hired q.id).2 ⟨q, hq, rfl⟩
        have hcl : ∀ id, (D ++ [a]).filter (clB id) = D.filter (clB id) := fun id => by
          rw [cl_app, if_neg (by simp [clB, hk]), List.append_nil]
        have hgo : ∀ id, goneI (D ++ [a]) id = goneI D id := fun id => by
          rw [gone_app]; unfold goneStep; rw [if_neg (by omega)]
        obtain ⟨o1, o2⟩ := h.out a.id hno
        refine ⟨⟨hins, fun x hx => ?_⟩, fun q hq => ?_, ?_, fun q hq => ?_, fun q hq => ?_, fun q hq => ?_, fun id hid' => ?_, fun q hq => ?_⟩
        · obtain ⟨q, hq, rfl⟩ := List.mem_map.1 hx
          rcases hmem q hq with rfl | hq
          · rw [hpid]; exact hid
          · exact h.srt.id hq
        · rcases hmem q hq with rfl | hq
          · subst hp
            exact ⟨⟨by simp, by simpa using hf⟩, _, _, rfl, rfl⟩
          · exact h.good q hq
        · rw [List.filter_append]
          have : [a].filter isH = [a] := by simp [isH, hk]
          rw [this, List.map_append]
          have e1 : (m.take i ++ p :: m.drop i).map Per.id = (m.take i).map Per.id ++ p.id :: (m.drop i).map Per.id := by simp
          rw [e1, hpid]
          refine (List.Perm.trans ?_ List.perm_middle.symm)
          have e2 : (m.take i).map Per.id ++ (m.drop i).map Per.id = m.map Per.id := by rw [← List.map_append, List.take_append_drop]
          rw [e2]
          exact (List.perm_append_singleton _ _).trans (List.Perm.cons _ h.perm)
        · rcases hmem q hq with rfl | hq
          · rw [hpid, hAct_new hnh hk, hp]; rfl
          · rw [hAct_app (.inl (hold q hq))]; exact h.frm q hq
        · rw [hgo]
          rcases hmem q hq with rfl | hq
          · rw [hpid, o1, hp]
          · exact h.gone q hq
        · rw [hcl]
          rcases hmem q hq with rfl | hq
          · rw [hpid, o2, hp]; rfl
          · exact h.ords q hq
        · rw [hcl, hgo]
          exact h.out id fun q hq => hid' q (hmem2 q hq)
        · rw [List.length_append, List.length_singleton]
          rcases hmem q hq with rfl | hq
          · subst hp; simp
          · have := h.size q hq; omega

theorem fix_same {a : Act} (h : a.kind = 1 ∨ a.kind = 2 ∨ a.kind = 3) : fixK a = a := by unfold fixK; rw [if_neg (by omega)]
theorem fix_four {a : Act} (h : ¬ (a.kind = 1 ∨ a.kind = 2 ∨ a.kind = 3)) : (fixK a).kind = 4 ∧ (fixK a).id = a.id ∧ (fixK a).ord = a.ord ∧ (fixK a).frm = a.frm := by
  unfold fixK
  split
  · exact ⟨rfl, rfl, rfl, rfl⟩
  · exact ⟨by omega, rfl, rfl, rfl⟩

theorem inv_step (h : Inv m D) {a : Act} (ha : a.in64) (he : (doS m a).2 = 0) : Inv (doS m a).1 (D ++ [fixK a]) := by
  unfold doS at he ⊢
  by_cases k1 : a.kind = 1
  · rw [if_pos k1] at he ⊢
    rw [fix_same (.inl k1)]
    exact inv_hire h ha k1 he
  · rw [if_neg k1] at he ⊢
    by_cases k2 : a.kind = 2
    · rw [if_pos k2] at he ⊢
      rw [fix_same (.inr (.inl k2))]
      unfold changeS at he ⊢
      split at he
      · simp at he
      · rename_i hbad
        rw [if_neg hbad]
        split at he
        · simp at he
        · rename_i hth
          rw [if_neg hth]
          split at he
          · simp at he
          · rename_i hfr
            rw [if_neg hfr]
            obtain ⟨hk, hki, hkg⟩ := pOf_at h ha (by simpa using hth)
            rw [hkg] at hfr ⊢
            obtain ⟨hid, hf⟩ := hire_bad (by simpa using hbad)
            have hg := h.good _ (List.getElem_mem hk)
            obtain ⟨g1, g2⟩ := hg.chg hf hfr
            exact h.turn (b := a) (by omega) hk hki rfl g1 rfl (by unfold goneStep; rw [if_neg (by omega)]) (by rw [if_neg (by omega)]; simp) g2
    · rw [if_neg k2] at he ⊢
      by_cases k3 : a.kind = 3
      · rw [if_pos k3] at he ⊢
        rw [fix_same (.inr (.inr k3))]
        unfold goneS at he ⊢
        split at he
        · simp at he
        · rename_i hth
          rw [if_neg hth]
          split at he
          · simp at he
          · rename_i hc
            rw [if_neg hc]
            obtain ⟨hk, hki, hkg⟩ := pOf_at h ha (by simpa using hth)
            rw [hkg]
            have hg := h.good _ (List.getElem_mem hk)
            exact h.turn (b := a) (by omega) hk hki rfl ⟨hg.srt, hg.hd⟩ rfl (by unfold goneStep; rw [if_pos ⟨k3, rfl⟩]) (by rw [if_neg (by omega)]; simp) (by simp)
      · rw [if_neg k3] at he ⊢
        obtain ⟨f1, f2, f3, f4⟩ := fix_four (a := a) (by omega)
        unfold claimS at he ⊢
        split at he
        · simp at he
        · rename_i hth
          rw [if_neg hth]
          split at he
          · simp at he
          · rename_i hc
            rw [if_neg hc]
            split at he
            · simp at he
            · rename_i hc2
              rw [if_neg hc2]
              split at he
              · simp at he
              · rename_i hc3
                rw [if_neg hc3]
                obtain ⟨hk, hki, hkg⟩ := pOf_at h ha (by simpa using hth)
                rw [hkg]
                have hg := h.good _ (List.getElem_mem hk)
                exact h.turn (b := fixK a) (by omega) hk (by rw [f2]; exact hki) rfl ⟨hg.srt, hg.hd⟩ rfl (by unfold goneStep; rw [if_neg (by omega)]) (by rw [if_pos f1, f3]) (by simp)
theorem do_same {a : Act} (he : (doS m a).2 ≠ 0) : (doS m a).1 = m := by
  unfold doS at he ⊢
  split at he
  · rename_i hk; rw [if_pos hk]
    unfold hireS at he ⊢
    split at he
    · rename_i h; rw [if_pos h]
    · rename_i h; rw [if_neg h]
      split at he
      · rename_i h; rw [if_pos h]
      · rename_i h; rw [if_neg h]
        split at he
        · rename_i h; rw [if_pos h]
        · simp at he
  · rename_i hk; rw [if_neg hk]
    split at he
    · rename_i hk; rw [if_pos hk]
      unfold changeS at he ⊢
      split at he
      · rename_i h; rw [if_pos h]
      · rename_i h; rw [if_neg h]
        split at he
        · rename_i h; rw [if_pos h]
        · rename_i h; rw [if_neg h]
          split at he
          · rename_i h; rw [if_pos h]
          · simp at he
    · rename_i hk; rw [if_neg hk]
      split at he
      · rename_i hk; rw [if_pos hk]
        unfold goneS at he ⊢
        split at he
        · rename_i h; rw [if_pos h]
        · rename_i h; rw [if_neg h]
          split at he
          · rename_i h; rw [if_pos h]
          · simp at he
      · rename_i hk; rw [if_neg hk]
        unfold claimS at he ⊢
        split at he
        · rename_i h; rw [if_pos h]
        · rename_i h; rw [if_neg h]
          split at he
          · rename_i h; rw [if_pos h]
          · rename_i h; rw [if_neg h]
            split at he
            · rename_i h; rw [if_pos h]
            · rename_i h; rw [if_neg h]
              split at he
              · rename_i h; rw [if_pos h]
              · simp at he
end

/-- Acts, one by one. -/
def runStep (s : List Per × List Act) (a : Act) : List Per × List Act := ((doS s.1 a).1, if (doS s.1 a).2 = 0 then s.2 ++ [fixK a] else s.2)
def runS (l : List Act) : List Per × List Act := l.foldl runStep ([], [])
theorem runS_app (l : List Act) (a : Act) : runS (l ++ [a]) = runStep (runS l) a := by
  unfold runS; rw [List.foldl_append]; rfl
theorem run_inv : ∀ {l : List Act} {s : List Per × List Act}, (∀ a ∈ l, a.in64) → Inv s.1 s.2 → Inv (l.foldl runStep s).1 (l.foldl runStep s).2 ∧ (l.foldl runStep s).2.length ≤ s.2.length + l.length
  | [], s, _, h => ⟨h, by simp⟩
  | a :: l, s, ha, h => by
    have h1 : Inv (runStep s a).1 (runStep s a).2 ∧ (runStep s a).2.length ≤ s.2.length + 1 := by
      unfold runStep
      by_cases he : (doS s.1 a).2 = 0
      · simp only [he, if_true]
        exact ⟨inv_step h (ha a (by simp)) he, by simp⟩
      · simp only [he, if_false]
        rw [do_same he]
        exact ⟨h, by omega⟩
    obtain ⟨h2, h3⟩ := run_inv (l := l) (fun b hb => ha b (by simp [hb])) h1.1
    exact ⟨h2, by simp only [List.foldl_cons, List.length_cons]; omega⟩
theorem runS_inv {l : List Act} (ha : ∀ a ∈ l, a.in64) : Inv (runS l).1 (runS l).2 ∧ (runS l).2.length ≤ l.length := by
  have := run_inv (s := ([], [])) ha Inv.nil
  simpa [runS] using this
end Go.Proofs.Ytndofikacmhejaa.Pay
