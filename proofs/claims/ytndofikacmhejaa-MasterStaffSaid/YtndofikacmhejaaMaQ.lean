/- Acts done, one by one: the walk. No statement of the seed is proved here. -/
import Derived.Test.YtndofikacmhejaaMaP
namespace Go.Proofs.Ytndofikacmhejaa.Pay
open Go Go.RowKit
set_option linter.unusedVariables false
set_option linter.unusedSimpArgs false

/-- A nil slice in a variable is an empty row. -/
theorem Gh.nilList {s : St} {id off t : Nat} {cs : List FV} (k : Nat) (hS : s.S[id]? = some (.cells t cs)) (hx : cs[off]? = some (.d .nil)) : Gh s { s with S := s.S.set id (.cells t (cs.set off (.d (.list k [])))) } := fun w I L a hs => by
  have hlt : id < s.S.length := (List.getElem?_eq_some_iff.1 hS).1
  have hll : id < L.length := by rw [hs.len]; exact hlt
  obtain ⟨l, hl⟩ : ∃ l, L[id]? = some l := ⟨L[id], List.getElem?_eq_getElem hll⟩
  have hown : ∀ l, own (.cells t (cs.set off (.d (.list k [])))) l = own (.cells t cs) l := fun l => by cases l <;> rfl
  have howns : owns (s.S.set id (.cells t (cs.set off (.d (.list k []))))) L = owns s.S L := owns_set hS hl (hown _)
  refine ⟨I, L, ⟨hs.env, hs.nt, by simp [hs.len], ?_, by rw [howns]; exact hs.nodup, by rw [howns]; exact hs.sep, hs.imm, hs.defers⟩, ⟨by rw [show ({ s with S := s.S.set id (.cells t (cs.set off (.d (.list k [])))) } : St).S = s.S.set id (.cells t (cs.set off (.d (.list k [])))) from rfl, howns]; exact Evo.refl _ _ _, rfl, fun _ _ => rfl⟩⟩
  intro j oj lj h1 h2
  have h1' : (s.S.set id (.cells t (cs.set off (.d (.list k [])))))[j]? = some oj := h1
  by_cases hj : id = j
  · subst hj
    rw [List.getElem?_set_self hlt] at h1'
    cases h1'
    obtain ⟨b, vs, rfl, hb, ho, hr⟩ := hs.obs id (.cells t cs) lj hS h2
    refine ⟨b, vs, rfl, hb, ho, ?_⟩
    obtain ⟨v, hv, hd⟩ := hr.get off _ hx
    simp only [VRel] at hd
    have := hr.set off (x := .d (.list k [])) (v := v) (by simp only [VRel]; exact nil_list hd)
    have hsame : vs.set off v = vs := by
      apply List.ext_getElem?
      intro q
      rw [List.getElem?_set]
      by_cases hq : off = q
      · subst hq
        rw [if_pos rfl, if_pos (List.getElem?_eq_some_iff.1 hv).1, hv]
      · rw [if_neg hq]
    rwa [hsame] at this
  · rw [List.getElem?_set_ne hj] at h1'
    exact hs.obs j oj lj h1' h2

theorem refA_ok (a : Act) : Gives Try.prog 49 [.d a.enc] (.d a.enc) := by
  refine Gives.enter tabOk Try.func49 rfl (by show 1 ≤ 16; decide) ?_
  simp only [Try.f49]
  refine WpC.seq (WpC.ops tabOk (r := []) (by simp -implicitDefEqProofs <;> rfl) rfl ?_)
  refine WpC.seq (WpC.ops tabOk (r := []) (by simp -implicitDefEqProofs <;> rfl) rfl ?_)
  refine WpC.ret ?_
  try simp only [blockQ, seqQ]
  refine retD_i (by simp -implicitDefEqProofs <;> rfl) (by simp -implicitDefEqProofs <;> rfl) ?_
  simp -implicitDefEqProofs

set_option maxHeartbeats 4000000 in
theorem do_ok (l : List Per) (a : Act) (hl : l.length ≤ 1000000000) (hr : ∀ p ∈ l, p.recs.length ≤ 1000000000) (ho : ∀ p ∈ l, p.ords.length ≤ 1000) : Gives Try.prog 29 [.d (encM l), .d a.enc] (.tup [.d (encM (doS l a).1), .d (dI (doS l a).2)]) := by
  have h1 := hire_ok l a.id a.rcd hl
  have h2 := change_ok l a.id a.rcd hl hr
  have h3 := leave_ok l a.id a.frm hl
  have h4 := claim_ok l a.id a.ord hl ho
  unfold doS
  refine Gives.enter tabOk Try.func29 rfl (by show 2 ≤ 52; decide) ?_
  simp only [Try.f29]
  refine WpC.seq (WpC.ops tabOk (r := []) (by simp -implicitDefEqProofs [Act.rcd, Act.ord] <;> rfl) rfl ?_)
  refine WpC.seq (WpC.ops tabOk (r := []) (by simp -implicitDefEqProofs [Act.rcd, Act.ord] <;> rfl) rfl ?_)
  refine WpC.seq ?_
  refine WpC.seq (WpC.ops tabOk (r := []) (by simp -implicitDefEqProofs [Act.rcd, Act.ord] <;> rfl) rfl ?_)
  refine WpC.block ?_
  refine WpC.seq (WpC.ops tabOk (r := []) (by simp -implicitDefEqProofs [Act.rcd, Act.ord] <;> rfl) rfl ?_)
  refine WpC.condD (a.kind = 1) (by simp -implicitDefEqProofs [Act.rcd, Act.ord]) (fun d16 => ?_) (fun d16 => ?_)
  · refine WpC.seq ?_
    refine WpC.region ?_
    refine WpO.run tabOk 4 (by simp -implicitDefEqProofs [Act.rcd, Act.ord, d16] <;> first | exact ⟨rfl, rfl⟩ | rfl) ?_
    refine WpO.data (by simp) rfl (by simp -implicitDefEqProofs [Act.rcd, Act.ord, d16] <;> rfl) (by simp -implicitDefEqProofs [Act.rcd, Act.ord, d16] <;> rfl) (by simp -implicitDefEqProofs [Act.rcd, Act.ord, d16] <;> rfl) call_20 (by simp) (h1) (by rfl) (by simp -implicitDefEqProofs [Act.rcd, Act.ord, d16] <;> rfl) ?_
    refine WpO.run tabOk 4 (by simp -implicitDefEqProofs [Act.rcd, Act.ord, d16] <;> first | exact ⟨rfl, rfl⟩ | rfl) ?_
    refine WpO.nil ?_
    refine WpC.ret ?_
    try simp only [blockQ, seqQ]
    refine retD_i (by simp -implicitDefEqProofs [Act.rcd, Act.ord, d16] <;> rfl) (by simp -implicitDefEqProofs [Act.rcd, Act.ord, d16] <;> rfl) ?_
    simp [d16, Act.rcd]
  · refine WpC.seq (WpC.ops tabOk (r := []) (by simp -implicitDefEqProofs [Act.rcd, Act.ord, d16] <;> rfl) rfl ?_)
    refine WpC.condD (a.kind = 2) (by simp -implicitDefEqProofs [Act.rcd, Act.ord, d16]) (fun d25 => ?_) (fun d25 => ?_)
    · refine WpC.seq ?_
      refine WpC.region ?_
      refine WpO.run tabOk 4 (by simp -implicitDefEqProofs [Act.rcd, Act.ord, d16, d25] <;> first | exact ⟨rfl, rfl⟩ | rfl) ?_
      refine WpO.data (by simp) rfl (by simp -implicitDefEqProofs [Act.rcd, Act.ord, d16, d25] <;> rfl) (by simp -implicitDefEqProofs [Act.rcd, Act.ord, d16, d25] <;> rfl) (by simp -implicitDefEqProofs [Act.rcd, Act.ord, d16, d25] <;> rfl) call_21 (by simp) (h2) (by rfl) (by simp -implicitDefEqProofs [Act.rcd, Act.ord, d16, d25] <;> rfl) ?_
      refine WpO.run tabOk 4 (by simp -implicitDefEqProofs [Act.rcd, Act.ord, d16, d25] <;> first | exact ⟨rfl, rfl⟩ | rfl) ?_
      refine WpO.nil ?_
      refine WpC.ret ?_
      try simp only [blockQ, seqQ]
      refine retD_i (by simp -implicitDefEqProofs [Act.rcd, Act.ord, d16, d25] <;> rfl) (by simp -implicitDefEqProofs [Act.rcd, Act.ord, d16, d25] <;> rfl) ?_
      simp [d25, Act.rcd]
    · refine WpC.seq (WpC.ops tabOk (r := []) (by simp -implicitDefEqProofs [Act.rcd, Act.ord, d16, d25] <;> rfl) rfl ?_)
      refine WpC.condD (a.kind = 3) (by simp -implicitDefEqProofs [Act.rcd, Act.ord, d16, d25]) (fun d34 => ?_) (fun d34 => ?_)
      · refine WpC.seq ?_
        refine WpC.region ?_
        refine WpO.run tabOk 5 (by simp -implicitDefEqProofs [Act.rcd, Act.ord, d16, d25, d34] <;> first | exact ⟨rfl, rfl⟩ | rfl) ?_
        refine WpO.data (by simp) rfl (by simp -implicitDefEqProofs [Act.rcd, Act.ord, d16, d25, d34] <;> rfl) (by simp -implicitDefEqProofs [Act.rcd, Act.ord, d16, d25, d34] <;> rfl) (by simp -implicitDefEqProofs [Act.rcd, Act.ord, d16, d25, d34] <;> rfl) call_25 (by simp) (h3) (by rfl) (by simp -implicitDefEqProofs [Act.rcd, Act.ord, d16, d25, d34] <;> rfl) ?_
        refine WpO.run tabOk 4 (by simp -implicitDefEqProofs [Act.rcd, Act.ord, d16, d25, d34] <;> first | exact ⟨rfl, rfl⟩ | rfl) ?_
        refine WpO.nil ?_
        refine WpC.ret ?_
        try simp only [blockQ, seqQ]
        refine retD_i (by simp -implicitDefEqProofs [Act.rcd, Act.ord, d16, d25, d34] <;> rfl) (by simp -implicitDefEqProofs [Act.rcd, Act.ord, d16, d25, d34] <;> rfl) ?_
        simp [d34]
      · refine WpC.skip ?_
        refine WpC.seq ?_
        refine WpC.region ?_
        refine WpO.run tabOk 5 (by simp -implicitDefEqProofs [Act.rcd, Act.ord, d16, d25, d34] <;> first | exact ⟨rfl, rfl⟩ | rfl) ?_
        refine WpO.data (by simp) rfl (by simp -implicitDefEqProofs [Act.rcd, Act.ord, d16, d25, d34] <;> rfl) (by simp -implicitDefEqProofs [Act.rcd, Act.ord, d16, d25, d34] <;> rfl) (by simp -implicitDefEqProofs [Act.rcd, Act.ord, d16, d25, d34] <;> rfl) call_26 (by simp) (h4) (by rfl) (by simp -implicitDefEqProofs [Act.rcd, Act.ord, d16, d25, d34] <;> rfl) ?_
        refine WpO.run tabOk 4 (by simp -implicitDefEqProofs [Act.rcd, Act.ord, d16, d25, d34] <;> first | exact ⟨rfl, rfl⟩ | rfl) ?_
        refine WpO.nil ?_
        refine WpC.ret ?_
        try simp only [blockQ, seqQ]
        refine retD_i (by simp -implicitDefEqProofs [Act.rcd, Act.ord, d16, d25, d34] <;> rfl) (by simp -implicitDefEqProofs [Act.rcd, Act.ord, d16, d25, d34] <;> rfl) ?_
        simp [d16, d25, d34, Act.ord]

set_option maxHeartbeats 4000000 in
theorem doAll_ok (l : List Act) (hl : l.length ≤ 120) (ha : ∀ a ∈ l, a.in64) : Gives Try.prog 27 [.d (encAs l)] (.tup [.d (encM (runS l).1), .d (encAs (runS l).2), .d (.bool true)]) := by
  refine Gives.enter tabOk Try.func27 rfl (by show 1 ≤ 52; decide) ?_
  simp only [Try.f27]
  refine WpC.seq (WpC.ops tabOk (r := []) (by simp -implicitDefEqProofs <;> rfl) rfl ?_)
  refine WpC.seq (WpC.ops tabOk (r := []) (by simp -implicitDefEqProofs <;> rfl) rfl ?_)
  refine WpC.seq (WpC.ops tabOk (r := []) (by simp -implicitDefEqProofs <;> rfl) rfl ?_)
  refine WpC.seq ?_
  refine WpC.gh (Gh.nilArr 86 13 (t := 6) (by simp) (by simp)) ?_
  refine WpC.gh (Gh.nilList (id := 1) (off := 0) 5 (by simp; exact ⟨rfl, rfl⟩) (by simp)) ?_
  refine WpC.seq (WpC.ops tabOk (r := []) (by simp -implicitDefEqProofs <;> rfl) rfl ?_)
  refine WpC.block ?_
  refine WpC.loopK [2, 5, 12, 13] [6, 14] (l.length) (([], []) : List Per × List Act) (fun k z => [(6, .sl 2 z.2.length), (14, .d (.int .i64 k))]) (fun k z => [.cells 57 [.d .nil], .cells 57 [.d (encPes z.1)], .arr 86 13 (z.2.map Act.enc)]) (fun k z => runS (l.take k) = z) (by simp -implicitDefEqProofs <;> rfl) (Gh.cut' [6, 14, 2, 5, 12, 13] 3 (by simp -implicitDefEqProofs) (by simp -implicitDefEqProofs) rfl (by simp) (by simp) (by simp)) (by simp [runS]) ?_
  rintro k z hk hi
  simp only [List.cons_append, List.nil_append]
  obtain ⟨m, D⟩ := z
  simp only at hi ⊢
  refine WpC.seq (WpC.ops tabOk (r := []) (by simp -implicitDefEqProofs <;> rfl) rfl ?_)
  refine WpC.seq (WpC.condD (k < l.length) (by simp -implicitDefEqProofs <;> omega) (fun hlt => ?_) (fun hge => ?_))
  · refine WpC.skip ?_
    obtain ⟨x, hx⟩ : ∃ x, l[k] = x := ⟨_, rfl⟩
    have hxm : x ∈ l := hx ▸ List.getElem_mem hlt
    have hI := runS_inv (l := l.take k) fun a h => ha a (List.mem_of_mem_take h)
    rw [hi] at hI
    obtain ⟨hI, hDl⟩ := hI
    simp only at hI hDl
    have hDk : D.length ≤ 120 := by rw [List.length_take] at hDl; omega
    have hst : runS (l.take (k + 1)) = runStep (m, D) x := by rw [List.take_add_one, List.getElem?_eq_getElem hlt, hx]; simp only [Option.toList_some]; rw [runS_app, hi]
    have hw : IntKind.i64.wrap ((k : Int) + 1) = k + 1 := wrapI (by omega) (by omega)
    have hdo := do_ok m x (by have := hI.len.2; omega) (fun p hp => by have := hI.size p hp; omega) (fun p hp => by have := (hI.ordsLen hp).2; omega)
    have hmay := may_ok D x (by omega)
    rw [may_eq hI (ha x hxm)] at hmay
    obtain ⟨n, hn⟩ : ∃ n, (doS m x).1 = n := ⟨_, rfl⟩
    obtain ⟨e, he⟩ : ∃ e, (doS m x).2 = e := ⟨_, rfl⟩
    rw [hn, he] at hdo
    rw [he] at hmay
    have hDs : D.length ≤ 8589934591 := by omega
    refine WpC.seq ?_
    refine WpC.block ?_
    refine WpC.seq (WpC.ops tabOk (r := []) (by simp -implicitDefEqProofs [hlt, hx, hw, hDs] <;> rfl) rfl ?_)
    refine WpC.seq ?_
    refine WpC.region ?_
    refine WpO.run tabOk 2 (by simp -implicitDefEqProofs [hlt, hx, hw, hDs] <;> first | exact ⟨rfl, rfl⟩ | rfl) ?_
    refine WpO.data (by simp) rfl (by simp -implicitDefEqProofs [hlt, hx, hw, hDs] <;> rfl) (by simp -implicitDefEqProofs [hlt, hx, hw, hDs] <;> rfl) (by simp -implicitDefEqProofs [hlt, hx, hw, hDs] <;> rfl) call_29 (by simp) (hdo) (by rfl) (by simp -implicitDefEqProofs [hlt, hx, hw, hDs] <;> rfl) ?_
    refine WpO.run tabOk 6 (by simp -implicitDefEqProofs [hlt, hx, hw, hDs] <;> first | exact ⟨rfl, rfl⟩ | rfl) ?_
    refine WpO.nil ?_
    refine WpC.seq ?_
    refine WpC.seq ?_
    refine WpC.region ?_
    refine WpO.run tabOk 3 (by simp -implicitDefEqProofs [hlt, hx, hw, hDs] <;> first | exact ⟨rfl, rfl⟩ | rfl) ?_
    refine WpO.data (by simp) rfl (by simp -implicitDefEqProofs [hlt, hx, hw, hDs] <;> rfl) (by simp -implicitDefEqProofs [hlt, hx, hw, hDs] <;> rfl) (by simp -implicitDefEqProofs [hlt, hx, hw, hDs] <;> rfl) call_49 (by simp) (refA_ok x) (by rfl) (by simp -implicitDefEqProofs [hlt, hx, hw, hDs] <;> rfl) ?_
    refine WpO.lend (by simp) rfl (by simp -implicitDefEqProofs [hlt, hx, hw, hDs] <;> rfl) (by simp -implicitDefEqProofs [hlt, hx, hw, hDs] <;> rfl) (by simp -implicitDefEqProofs [hlt, hx, hw, hDs] <;> rfl) call_48 (hmay) (by rfl) (by simp -implicitDefEqProofs [hlt, hx, hw, hDs] <;> rfl) ?_
    refine WpO.run tabOk 1 (by simp -implicitDefEqProofs [hlt, hx, hw, hDs] <;> first | exact ⟨rfl, rfl⟩ | rfl) ?_
    refine WpO.nil ?_
    refine WpC.condF (by simp -implicitDefEqProofs [hlt, hx, hw, hDs] <;> rfl) ?_
    refine WpC.skip ?_
    refine WpC.seq ?_
    refine WpC.seq (WpC.ops tabOk (r := []) (by simp -implicitDefEqProofs [hlt, hx, hw, hDs] <;> rfl) rfl ?_)
    refine WpC.condD (e = 0) (by simp -implicitDefEqProofs [hlt, hx, hw, hDs]) (fun d32 => ?_) (fun d32 => ?_)
    · refine WpC.seq ?_
      refine WpC.region ?_
      refine WpO.run tabOk 1 (by simp -implicitDefEqProofs [hlt, hx, hw, hDs, d32] <;> first | exact ⟨rfl, rfl⟩ | rfl) ?_
      refine WpO.data (by simp) rfl (by simp -implicitDefEqProofs [hlt, hx, hw, hDs, d32] <;> rfl) (by simp -implicitDefEqProofs [hlt, hx, hw, hDs, d32] <;> rfl) (by simp -implicitDefEqProofs [hlt, hx, hw, hDs, d32] <;> rfl) call_49 (by simp) (refA_ok x) (by rfl) (by simp -implicitDefEqProofs [hlt, hx, hw, hDs, d32] <;> rfl) ?_
      refine WpO.run tabOk 2 (by simp -implicitDefEqProofs [hlt, hx, hw, hDs, d32] <;> first | exact ⟨rfl, rfl⟩ | rfl) ?_
      refine WpO.nil ?_
      refine WpC.seq ?_
      refine WpC.seq ?_
      refine WpC.val 42 (.d (.bool (decide (x.kind < 1 ∨ 4 < x.kind)))) ?_ ?_
      · refine WpC.region ?_
        refine WpO.run tabOk 4 (by simp -implicitDefEqProofs [hlt, hx, hw, hDs, d32] <;> first | exact ⟨rfl, rfl⟩ | rfl) ?_
        refine WpO.splitB 38 (by simp -implicitDefEqProofs [hlt, hx, hw, hDs, d32] <;> rfl) (by rfl) (fun g38 => ?_) (fun g38 => ?_)
        · have g38' := g38; first | simp only [dT, dF] at g38' | try simp at g38'
          refine WpO.run tabOk 4 (by simp -implicitDefEqProofs [hlt, hx, hw, hDs, d32, g38] <;> first | exact ⟨rfl, rfl⟩ | rfl) ?_
          refine WpO.nil ?_
          refine ⟨rfl, Gh.only 42 9 ?_ (by first | rfl | simp -implicitDefEqProofs [hlt, hx, hw, hDs, d32, g38]) (by rfl)⟩
          simp -implicitDefEqProofs [hlt, hx, hw, hDs, d32, g38, g38']
        · have g38' := g38; first | simp only [dT, dF] at g38' | try simp at g38'
          refine WpO.run tabOk 4 (by simp -implicitDefEqProofs [hlt, hx, hw, hDs, d32, g38] <;> first | exact ⟨rfl, rfl⟩ | rfl) ?_
          refine WpO.nil ?_
          refine ⟨rfl, Gh.only 42 9 ?_ (by first | rfl | simp -implicitDefEqProofs [hlt, hx, hw, hDs, d32, g38]) (by rfl)⟩
          simp -implicitDefEqProofs [hlt, hx, hw, hDs, d32, g38, g38']
      refine WpC.condD (x.kind < 1 ∨ 4 < x.kind) (by simp -implicitDefEqProofs [hlt, hx, hw, hDs, d32]) (fun d42 => ?_) (fun d42 => ?_)
      · have hfx : fixK x = { x with kind := 4 } := if_pos d42
        refine WpC.ops tabOk (r := []) (by simp -implicitDefEqProofs [hlt, hx, hw, hDs, d32, d42, hfx] <;> rfl) rfl ?_
        refine WpC.ops tabOk (r := []) (by simp -implicitDefEqProofs [hlt, hx, hw, hDs, d32, d42, hfx] <;> rfl) rfl ?_
        refine WpC.ops tabOk (r := []) (by simp -implicitDefEqProofs [hlt, hx, hw, hDs, d32, d42, hfx] <;> rfl) rfl ?_
        refine WpC.ops tabOk (r := []) (by simp -implicitDefEqProofs [hlt, hx, hw, hDs, d32, d42, hfx] <;> rfl) rfl ?_
        exact ⟨hlt, (n, D ++ [fixK x]), by rw [hst]; simp [runStep, hn, he, d32], Gh.pick [6, 14, 2, 5, 12, 13] [0, 1, 7] (by simp -implicitDefEqProofs [hlt, hx, hw, hDs, d32, d42, hfx]; rfl) (by simp -implicitDefEqProofs [hlt, hx, hw, hDs, d32, d42, hfx]) (by simp) (by simp) (by simp; rfl) (by simp -implicitDefEqProofs [hlt, hx, hw, hDs, d32, d42, hfx]) (by simp)⟩
      · have hfx : fixK x = x := if_neg d42
        refine WpC.skip ?_
        refine WpC.ops tabOk (r := []) (by simp -implicitDefEqProofs [hlt, hx, hw, hDs, d32, d42, hfx] <;> rfl) rfl ?_
        refine WpC.ops tabOk (r := []) (by simp -implicitDefEqProofs [hlt, hx, hw, hDs, d32, d42, hfx] <;> rfl) rfl ?_
        refine WpC.ops tabOk (r := []) (by simp -implicitDefEqProofs [hlt, hx, hw, hDs, d32, d42, hfx] <;> rfl) rfl ?_
        exact ⟨hlt, (n, D ++ [fixK x]), by rw [hst]; simp [runStep, hn, he, d32], Gh.pick [6, 14, 2, 5, 12, 13] [0, 1, 7] (by simp -implicitDefEqProofs [hlt, hx, hw, hDs, d32, d42, hfx]; rfl) (by simp -implicitDefEqProofs [hlt, hx, hw, hDs, d32, d42, hfx]) (by simp) (by simp) (by simp; rfl) (by simp -implicitDefEqProofs [hlt, hx, hw, hDs, d32, d42, hfx]) (by simp)⟩
    · refine WpC.skip ?_
      refine WpC.ops tabOk (r := []) (by simp -implicitDefEqProofs [hlt, hx, hw, hDs, d32] <;> rfl) rfl ?_
      refine WpC.ops tabOk (r := []) (by simp -implicitDefEqProofs [hlt, hx, hw, hDs, d32] <;> rfl) rfl ?_
      exact ⟨hlt, (n, D), by rw [hst]; simp [runStep, hn, he, d32], Gh.cut' [6, 14, 2, 5, 12, 13] 3 (by simp -implicitDefEqProofs [hlt, hx, hw, hDs, d32]) (by simp -implicitDefEqProofs [hlt, hx, hw, hDs, d32]) rfl (by simp) (by simp) (by simp)⟩
  · refine WpC.exit ?_
    have hkn : k = l.length := by omega
    subst hkn
    rw [List.take_of_length_le (Nat.le_refl _)] at hi
    refine WpC.seq (WpC.ops tabOk (r := []) (by simp -implicitDefEqProofs <;> rfl) rfl ?_)
    refine WpC.ret ?_
    try simp only [blockQ, seqQ]
    refine retD_i (by simp -implicitDefEqProofs <;> rfl) (by simp -implicitDefEqProofs <;> rfl) ?_
    rw [hi]; simp
end Go.Proofs.Ytndofikacmhejaa.Pay
