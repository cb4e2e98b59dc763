/- The end of a row is cleared. No statement of the seed is proved here. -/
import Derived.Test.YtaobnhenjldjeaaPayP
namespace Go.Proofs.Ytaobnhenjldjeaa.Pay
open Go Go.RowKit
set_option linter.unusedVariables false
set_option linter.unusedSimpArgs false
set_option linter.unusedSectionVars false

section
variable {P : Program} {T : Nat → Option TI} {w w' : World} {I : Nat → Prop} {L : List Lay} {s s' : St} {a : Act} {all : Array Oper} {o : Oper} {rest : List Oper} {Q : Exit → St → Prop}
theorem drelR_rep {x : D} {v c : Value} (h : DRel w I x v) (hc : v.cells = #[c]) : ∀ n : Nat, DRelR w I 1 (List.replicate n x) (List.replicate n c)
  | 0 => by simp [DRelR]
  | n + 1 => by
    rw [List.replicate_succ, List.replicate_succ]
    simp only [DRelR]
    exact ⟨v, List.replicate n c, by rw [hc]; rfl, by rw [hc]; rfl, h, drelR_rep h hc n⟩
theorem OpOk.clear (hT : TabOk P T) {t e : TypeId} {i ei : TI} {x : Operand} {id off n : Nat} {xs : List D} {o : Oper} (ho : o.op = .call { callee := .builtin .clear, args := #[x], argTypes := #[t] }) (hx : evX s x = some (.so id 1 off n)) (hi : T t = some i) (hk : i.kind = .slice e) (hei : T e = some ei) (h1 : ei.size = 1)
    (hS : s.S[id]? = some (.arr e 1 xs)) (hn : 0 < n) (hl : off + n = xs.length) (hset : setS { s with S := s.S.set id (.arr e 1 (xs.take off ++ List.replicate n ei.zeroD)) } o.dst (.tup []) = some s') : OpOk P o s s' := fun w I L a hs => by
  have hI := (hT _ _ hi).kind
  rw [hk] at hI
  simp only [TKOk] at hI
  obtain ⟨z, v, hz, hzr, hvc, hvs⟩ := zeroD_ok (w := w) (I := I) (hT _ _ hei) (.inr h1)
  rw [h1] at hvs
  obtain ⟨c, hc⟩ : ∃ c, v.cells = #[c] := by
    obtain ⟨l, hl⟩ : ∃ l, v.cells = Array.mk l := ⟨v.cells.toList, by simp⟩
    rw [hl] at hvs ⊢
    match l, hvs with
    | [c], _ => exact ⟨c, rfl⟩
  have hus := drelR_rep hzr hc n
  have hone := hus.ones
  have hvx := hs.evX hx
  simp only [VRel] at hvx
  obtain ⟨l, hd, cc, hl', hvx, hle, hxx⟩ := hvx
  rcases hxx with h0 | ⟨b, cap, rfl, rfl, hcap⟩
  · omega
  rcases hs.obs _ _ _ hS hl' with ⟨base, cp, vs, he, hown, hr⟩ | ⟨hd', he, _⟩
  rotate_left
  · cases he
  cases he
  obtain ⟨cur, hcur, hfit, hown'⟩ := ownsRow_put (p := off) (m := n) (us := List.replicate n c) hown (by omega) (by omega) (by simp)
  have hst := run_storeCells_at P b (off * 1) e (List.replicate n c) 0 cur w hcur (by simpa using hfit) hone
  generalize hw' : w.setRow b (cur.toList.take (off * 1) ++ List.replicate n c ++ cur.toList.drop (off * 1 + (List.replicate n c).length)).toArray = w' at *
  have hkeep : ∀ j, j < w.heap.size → j ∉ own (.arr e 1 xs) (.a (some b) cap) → w'.heap[j]? = w.heap[j]? := fun j _ hj => by
    rw [← hw']; exact setRow_other w b j _ (by simpa [own] using hj)
  have hII : ∀ j, I j → w'.heap[j]? = w.heap[j]? := fun j hj => hkeep j (hs.imm j hj) fun hb' => (hs.sep j (owns_mem hS hl' j hb')).1 hj
  have hs1 : w'.heap.size = w.heap.size := by rw [← hw']; simp
  have hvl := hr.length
  have hlen' : (xs.take off ++ List.replicate n ei.zeroD).length = max xs.length (off + n) := by
    simp only [List.length_append, List.length_take, List.length_replicate]
    omega
  have hor : ORel w' I L (.arr e 1 (xs.take off ++ List.replicate n ei.zeroD)) (.a (some b) cap) := by
    refine .inl ⟨some b, cap, vs.take (off * 1) ++ List.replicate n c ++ vs.drop ((off + n) * 1), rfl, ?_, ?_⟩
    · rw [hlen']; exact hown'
    · have hnil : vs.drop ((off + n) * 1) = [] := List.drop_eq_nil_of_le (by omega)
      rw [hnil, List.append_nil]
      exact DRelR.mono hII (fun _ h => h) _ _ _ ((hr.take off).append hus)
  have hzc : (Builtin.zeroCells z.cells n).toList = List.replicate n c := by
    rw [← hvc, hc]
    simp [Builtin.zeroCells]
    apply List.ext_getElem
    · simp
    · intro i h1 h2
      simp [Nat.mod_one]
  have h2 := hs.upd hS hl' (own_arr _ _ _ _ _) hkeep hs1 hor
  have h3 := Step.upd (I := I) hS hl' (own_arr e 1 (xs.take off ++ List.replicate n ei.zeroD) xs (.a (some b) cap)) hkeep hs1 (by rw [← hw']; rfl) (by rw [← hw']; rfl) (by rw [← hw']; rfl)
  obtain ⟨r4, r5⟩ := put_step (v := .tuple #[]) h2 h3 (by simp only [VRel, VRelL]; exact ⟨[], rfl, rfl⟩) hset
  refine ⟨_, w', I, L, _, ?_, .inl rfl, r4, r5⟩
  obtain ⟨m, rfl⟩ : ∃ m, n = m + 1 := ⟨n - 1, by omega⟩
  have hrun : (Builtin.clear_ #[t] o.type #[.slice (some ⟨b, off * 1, none⟩) (m + 1) cc]).run P w = .ok (.tuple #[]) w' := by
    simp [Builtin.clear_, run_underlying hI, hz, hzc]
    simp at hst
    rw [hst]; rfl
  unfold execOp
  simp only [ho, resolve, invoke, builtin, Sem.run_bind, Sem.run_pure, Result.andThen_ok, List.map_toArray, List.map_cons, List.map_nil, hvx, hrun]
end
end Go.Proofs.Ytaobnhenjldjeaa.Pay
