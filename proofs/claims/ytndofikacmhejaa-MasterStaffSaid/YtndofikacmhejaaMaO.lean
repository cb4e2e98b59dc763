/- What the program keeps against what the document says of the acts that were done. No statement of the seed is proved here. -/
import Derived.Test.YtndofikacmhejaaMaN
import Derived.Test.YtndofikacmhejaaMaJ
namespace Go.Proofs.Ytndofikacmhejaa.Pay
open Go Go.RowKit
set_option linter.unusedVariables false
set_option linter.unusedSimpArgs false

def doS (m : List Per) (a : Act) : List Per × Int :=
  if a.kind = 1 then hireS m a.id a.rcd else if a.kind = 2 then changeS m a.id a.rcd else if a.kind = 3 then goneS m a.id a.frm else claimS m a.id a.ord
def fixK (a : Act) : Act := if a.kind < 1 ∨ 4 < a.kind then { a with kind := 4 } else a
def isH (a : Act) : Bool := decide (a.kind = 1)
def clB (id : Int) (b : Act) : Bool := decide (b.kind = 4) && decide (b.id = id)

structure Good (p : Per) : Prop where
  srt : RSrt p.recs
  hd : ∃ r rs, p.recs = r :: rs ∧ r.frm = p.hired
structure Inv (m : List Per) (D : List Act) : Prop where
  srt : Srt m
  good : ∀ p ∈ m, Good p
  perm : ((D.filter isH).map Act.id).Perm (m.map Per.id)
  frm : ∀ p ∈ m, (hAct D p.id).frm = p.hired
  gone : ∀ p ∈ m, goneI D p.id = p.gone
  ords : ∀ p ∈ m, (D.filter (clB p.id)).map Act.ord = p.ords
  out : ∀ id, (∀ p ∈ m, p.id ≠ id) → goneI D id = 0 ∧ D.filter (clB id) = []
  size : ∀ p ∈ m, p.recs.length ≤ D.length

theorem Inv.nil : Inv [] [] := ⟨⟨by simp, by simp⟩, by simp, by simp, by simp, by simp, by simp, fun id _ => ⟨rfl, rfl⟩, by simp⟩

section
variable {m : List Per} {D : List Act}
theorem Inv.len (h : Inv m D) : (m.length : Int) = manyI D 1 0 ∧ m.length ≤ D.length := by
  have h1 := h.perm.length_eq
  simp only [List.length_map] at h1
  have h2 : D.countP (manyB 1 0) = (D.filter isH).length := by
    rw [← List.countP_eq_length_filter]
    congr 1
    funext a
    simp [manyB, isH]
  refine ⟨?_, ?_⟩
  · unfold manyI; rw [h2]; omega
  · rw [← h1]; exact List.length_filter_le _ _
theorem Inv.mem (h : Inv m D) (id : Int) : (∃ a ∈ D, a.kind = 1 ∧ a.id = id) ↔ ∃ p ∈ m, p.id = id := by
  have h1 := h.perm.mem_iff (a := id)
  simp only [List.mem_map, List.mem_filter, isH, decide_eq_true_eq] at h1
  constructor
  · rintro ⟨a, ha, hk, he⟩
    exact h1.1 ⟨a, ⟨ha, hk⟩, he⟩
  · intro hp
    obtain ⟨a, ⟨ha, hk⟩, he⟩ := h1.2 hp
    exact ⟨a, ha, hk, he⟩
theorem Inv.hired (h : Inv m D) (id : Int) : 0 ≤ hiredI D id ↔ ∃ p ∈ m, p.id = id := by
  rw [← h.mem, ← decide_eq_true_iff (p := 0 ≤ hiredI D id)]
  unfold hiredI
  rw [idxP_any, List.any_eq_true]
  constructor
  · rintro ⟨a, ha, hf⟩
    simp only [hireB, Bool.and_eq_true, decide_eq_true_eq] at hf
    exact ⟨a, ha, hf⟩
  · rintro ⟨a, ha, hf⟩
    exact ⟨a, ha, by simpa [hireB] using hf⟩
theorem Inv.ordsLen (h : Inv m D) {p : Per} (hp : p ∈ m) : (p.ords.length : Int) = manyI D 4 p.id ∧ p.ords.length ≤ D.length := by
  have h1 := congrArg List.length (h.ords p hp)
  simp only [List.length_map] at h1
  have h0 := (h.srt.id hp).1
  have h2 : D.countP (manyB 4 p.id) = (D.filter (clB p.id)).length := by
    rw [← List.countP_eq_length_filter]
    congr 1
    funext a
    have : ¬ p.id = 0 := by omega
    simp [manyB, clB, this]
  refine ⟨?_, ?_⟩
  · unfold manyI; rw [h2]; omega
  · rw [← h1]; exact List.length_filter_le _ _
theorem Inv.cred (h : Inv m D) {p : Per} (hp : p ∈ m) (c : Int) : D.any (credB p.id c) = p.ords.any fun x => decide (x.cred = c) := by
  rw [← h.ords p hp, List.any_map, List.any_filter]
  congr 1

theorem sound_bad (a : Act) : soundB a = !hireBad a.id a.rcd := by
  have key : ∀ b c : Bool, (b = true ↔ c = true) → b = c := fun b c h => by cases b <;> cases c <;> simp_all
  refine key _ _ ?_
  simp only [soundB, hireBad, rightB, periodB, Act.rcd, Bool.and_eq_true, Bool.not_eq_true', Bool.or_eq_false_iff, decide_eq_true_eq, decide_eq_false_iff_not, Bool.not_eq_false']
  constructor
  · rintro ⟨h1, h2⟩
    exact ⟨⟨by omega, by omega⟩, h1, ⟨decide_eq_true (by omega), decide_eq_true (by omega)⟩, decide_eq_true (by omega)⟩
  · rintro ⟨⟨h1, h2⟩, h3, ⟨h4, h5⟩, h6⟩
    have h4 := of_decide_eq_true h4
    have h5 := of_decide_eq_true h5
    have h6 := of_decide_eq_true h6
    exact ⟨h3, by omega⟩
theorem order_bad (o : Ord) : orderB o = !ordBad o := by
  have key : ∀ b c : Bool, (b = true ↔ c = true) → b = c := fun b c h => by cases b <;> cases c <;> simp_all
  refine key _ _ ?_
  simp only [orderB, ordBad, List.all_cons, List.all_nil, crB, Bool.and_eq_true, Bool.not_eq_true', Bool.or_eq_false_iff, decide_eq_true_eq, decide_eq_false_iff_not, Bool.and_true]
  constructor
  · rintro ⟨h1, h2⟩
    exact ⟨⟨by omega, by omega⟩, by omega⟩
  · rintro ⟨⟨h1, h2⟩, h3⟩
    exact ⟨⟨by omega, by omega⟩, by omega⟩

/-- An act's numbers. -/
def Act.in64 (a : Act) : Prop := -9223372036854775808 ≤ a.id ∧ a.id ≤ 9223372036854775807

theorem may_eq (h : Inv m D) {a : Act} (ha : a.in64) : mayI D a = (doS m a).2 := by
  have hth := h.srt.there ha
  have hhi := h.hired a.id
  unfold mayI doS
  by_cases hp : ∃ p ∈ m, p.id = a.id
  · have h0 : ¬ hiredI D a.id < 0 := by have := hhi.2 hp; omega
    have h0' : 0 ≤ hiredI D a.id := by omega
    have hb := hth.2 hp
    obtain ⟨p, hpm, hpi⟩ := hp
    obtain ⟨_, hpo⟩ := h.srt.of hpm
    rw [hpi] at hpo
    unfold pOf at hpo
    have hfr := h.frm p hpm
    have hol := (h.ordsLen hpm).1
    have hcr : D.any (credB p.id a.cred) = p.ords.any fun x => decide (x.cred = a.ord.cred) := h.cred hpm a.cred
    rw [hpi] at hfr hol hcr
    by_cases k1 : a.kind = 1
    · rw [if_pos k1, if_pos k1]
      unfold hireS
      rw [sound_bad, hb]
      cases hireBad a.id a.rcd <;> simp [h0']
    · rw [if_neg k1, if_neg k1]
      by_cases k2 : a.kind = 2
      · rw [if_pos k2, if_pos k2]
        unfold changeS
        rw [sound_bad, hb, hpo, hfr]
        cases hireBad a.id a.rcd
        · simp only [Bool.not_false, Bool.true_eq_false, if_false, if_neg h0, Bool.false_eq_true, Act.rcd]
          by_cases hc : a.frm < p.hired <;> simp [hc]
        · rfl
      · rw [if_neg k2, if_neg k2]
        by_cases k3 : a.kind = 3
        · rw [if_pos k3, if_pos k3, if_neg h0, hfr]
          unfold goneS
          rw [hb, hpo]
          simp only [Bool.true_eq_false, if_false]
          have : (a.frm < 22800 ∨ 35999 < a.frm ∨ a.frm ≤ p.hired) ↔ (periodB a.frm = false ∨ a.frm ≤ p.hired) := by
            simp only [periodB, decide_eq_false_iff_not]; omega
          by_cases hc : periodB a.frm = false ∨ a.frm ≤ p.hired
          · rw [if_pos (this.2 hc), if_pos hc]
          · rw [if_neg (fun q => hc (this.1 q)), if_neg hc]
        · rw [if_neg k3, if_neg k3, if_neg h0]
          unfold claimS
          rw [hb, hpo, order_bad, ← hol, hcr]
          simp only [Bool.true_eq_false, if_false]
          cases ordBad a.ord
          · simp only [Bool.not_false, Bool.true_eq_false, if_false, Bool.false_eq_true]
            split
            · rfl
            · split <;> rfl
          · rfl
  · have h0' : ¬ 0 ≤ hiredI D a.id := fun q => hp (hhi.1 q)
    have h0 : hiredI D a.id < 0 := by omega
    have hb : srchB (perCmp a.id) m = false := by
      cases hb : srchB (perCmp a.id) m with
      | false => rfl
      | true => exact absurd (hth.1 hb) hp
    by_cases k1 : a.kind = 1
    · rw [if_pos k1, if_pos k1]
      unfold hireS
      rw [sound_bad, hb, ← h.len.1]
      cases hireBad a.id a.rcd
      · simp only [Bool.not_false, Bool.true_eq_false, if_false, Bool.false_eq_true, if_neg h0']
        split <;> rfl
      · rfl
    · rw [if_neg k1, if_neg k1]
      by_cases k2 : a.kind = 2
      · rw [if_pos k2, if_pos k2]
        unfold changeS
        rw [sound_bad, hb]
        cases hireBad a.id a.rcd <;> simp [h0]
      · rw [if_neg k2, if_neg k2]
        by_cases k3 : a.kind = 3
        · rw [if_pos k3, if_pos k3, if_pos h0]
          unfold goneS; rw [hb]; rfl
        · rw [if_neg k3, if_neg k3, if_pos h0]
          unfold claimS; rw [hb]; rfl

/-! ### One act more -/
theorem hAct_app {id : Int} {b : Act} (hD : 0 ≤ hiredI D id ∨ hireB id b = false) : hAct (D ++ [b]) id = hAct D id := by
  unfold hAct
  rw [List.find?_append]
  rcases hD with hD | hD
  · have : D.any (hireB id) = true := by rw [← idxP_any]; exact decide_eq_true hD
    obtain ⟨x, hx⟩ : ∃ x, D.find? (hireB id) = some x := by
      cases hf : D.find? (hireB id) with
      | some x => exact ⟨x, rfl⟩
      | none =>
        rw [List.find?_eq_none] at hf
        rw [List.any_eq_true] at this
        obtain ⟨y, hy, hy2⟩ := this
        exact absurd hy2 (hf y hy)
    rw [hx]; rfl
  · rw [List.find?_cons, hD]
    simp
theorem hAct_new {b : Act} (hD : ¬ 0 ≤ hiredI D b.id) (hb : b.kind = 1) : hAct (D ++ [b]) b.id = b := by
  unfold hAct
  have : D.find? (hireB b.id) = none := by
    rw [List.find?_eq_none]
    intro x hx hx2
    refine hD ?_
    have : D.any (hireB b.id) = true := by rw [List.any_eq_true]; exact ⟨x, hx, hx2⟩
    rw [← idxP_any] at this
    exact of_decide_eq_true this
  rw [List.find?_append, this, List.find?_cons]
  simp [hireB, hb]
theorem gone_app (id : Int) (b : Act) : goneI (D ++ [b]) id = goneStep id (goneI D id) b := by
  unfold goneI
  rw [List.foldl_append]; rfl
theorem cl_app (id : Int) (b : Act) : (D ++ [b]).filter (clB id) = D.filter (clB id) ++ (if clB id b = true then [b] else []) := by
  rw [List.filter_append]
  congr 1
  by_cases h : clB id b = true <;> simp [h]

/-- One person is turned, by an act that is no hiring. -/
theorem Inv.turn (h : Inv m D) {b : Act} (hk : b.kind ≠ 1) {k : Nat} (hkm : k < m.length) (hid : m[k].id = b.id) {p : Per} (hpi : p.id = m[k].id) (hpg : Good p)
    (hhi : p.hired = m[k].hired) (hgo : goneStep b.id m[k].gone b = p.gone) (hor : p.ords = m[k].ords ++ (if b.kind = 4 then [b.ord] else [])) (hsz : p.recs.length ≤ m[k].recs.length + 1) : Inv (m.set k p) (D ++ [b]) := by
  obtain ⟨s1, s2⟩ := h.srt.set hkm hpi
  have hmk : m[k] ∈ m := List.getElem_mem hkm
  have hH : isH b = false := by simp [isH, hk]
  have hpb : p.id = b.id := hpi.trans hid
  have hpm : p ∈ m.set k p := by
    rw [List.mem_iff_getElem]
    exact ⟨k, by simpa using hkm, by simp⟩
  have hcase : ∀ q ∈ m.set k p, q = p ∨ (q ∈ m ∧ q.id ≠ b.id) := fun q hq => by
    by_cases he : q.id = b.id
    · exact .inl (s1.uniq hq hpm (he.trans hpb.symm))
    · rcases mem_set hkm hq with rfl | hm
      · exact absurd hpb he
      · exact .inr ⟨hm, he⟩
  have hHB : ∀ id, hireB id b = false := fun id => by simp [hireB, hk]
  have hgo2 : ∀ id, id ≠ b.id → goneI (D ++ [b]) id = goneI D id := fun id hn => by
    rw [gone_app]; unfold goneStep; rw [if_neg (fun q => hn q.2.symm)]
  have hcl2 : ∀ id, id ≠ b.id → (D ++ [b]).filter (clB id) = D.filter (clB id) := fun id hn => by
    rw [cl_app, if_neg (by simp [clB, Ne.symm hn]), List.append_nil]
  refine ⟨s1, fun q hq => ?_, ?_, fun q hq => ?_, fun q hq => ?_, fun q hq => ?_, fun id hid' => ?_, fun q hq => ?_⟩
  · rcases hcase q hq with rfl | ⟨hm, _⟩
    · exact hpg
    · exact h.good q hm
  · rw [List.filter_append, s2]
    have : [b].filter isH = [] := by simp [hH]
    rw [this, List.append_nil]
    exact h.perm
  · rw [hAct_app (.inr (hHB _))]
    rcases hcase q hq with rfl | ⟨hm, _⟩
    · rw [hpi, h.frm _ hmk, hhi]
    · exact h.frm q hm
  · rcases hcase q hq with rfl | ⟨hm, hn⟩
    · rw [gone_app, hpb, ← hid, h.gone _ hmk, hid, hgo]
    · rw [hgo2 _ hn]; exact h.gone q hm
  · rcases hcase q hq with rfl | ⟨hm, hn⟩
    · rw [cl_app, List.map_append, hpi, h.ords _ hmk, hor]
      congr 1
      by_cases h4 : b.kind = 4
      · rw [if_pos h4, if_pos (by simp [clB, h4, hid])]; rfl
      · rw [if_neg h4, if_neg (by simp [clB, h4])]; rfl
    · rw [hcl2 _ hn]; exact h.ords q hm
  · have hn : id ≠ b.id := fun e => hid' p hpm (hpb.trans e.symm)
    rw [hgo2 _ hn, hcl2 _ hn]
    refine h.out id fun q hq he => ?_
    obtain ⟨j, hj, rfl⟩ := List.getElem_of_mem hq
    by_cases hjk : k = j
    · subst hjk; exact hn (he.symm.trans hid)
    · exact hid' m[j] (by rw [List.mem_iff_getElem]; exact ⟨j, by simpa using hj, by rw [List.getElem_set_ne hjk]⟩) he
  · rw [List.length_append, List.length_singleton]
    rcases hcase q hq with rfl | ⟨hm, _⟩
    · have := h.size _ hmk; omega
    · have := h.size q hm; omega

theorem Good.chg {p : Per} (hg : Good p) {r : Rec} (hr : 22800 ≤ r.frm ∧ r.frm ≤ 35999) (hh : ¬ r.frm < p.hired) : Good { p with recs := recS p.recs r } ∧ (recS p.recs r).length ≤ p.recs.length + 1 := by
  obtain ⟨A, B, C, e1, e2, hA, hC, hB⟩ := recS_eq hg.srt hr
  have hs : RSrt (A ++ r :: C) := by
    have hs := hg.srt
    rw [e1] at hs
    obtain ⟨q1, q2⟩ := hs
    refine ⟨?_, fun x hx => ?_⟩
    · simp only [List.map_append, List.map_cons, List.pairwise_append, List.pairwise_cons] at q1 ⊢
      obtain ⟨⟨p1, _, p2⟩, p3, p4⟩ := q1
      refine ⟨p1, ⟨fun x hx => ?_, p3⟩, fun x hx y hy => ?_⟩
      · obtain ⟨z, hz, rfl⟩ := List.mem_map.1 hx
        exact hC z hz
      · rcases List.mem_cons.1 hy with rfl | hy
        · obtain ⟨z, hz, rfl⟩ := List.mem_map.1 hx
          exact hA z hz
        · exact p4 x (List.mem_append_left _ hx) y hy
    · rcases List.mem_append.1 hx with hx | hx
      · exact q2 x (by simp [hx])
      · rcases List.mem_cons.1 hx with rfl | hx
        · exact hr
        · exact q2 x (by simp [hx])
  refine ⟨⟨by show RSrt (recS p.recs r); rw [e2]; exact hs, ?_⟩, ?_⟩
  · show ∃ r' rs, recS p.recs r = r' :: rs ∧ r'.frm = p.hired
    rw [e2]
    obtain ⟨r0, rs, h0, h1⟩ := hg.hd
    cases A with
    | cons x A =>
      rw [e1] at h0
      simp only [List.cons_append, List.cons.injEq] at h0
      exact ⟨x, A ++ r :: C, rfl, by rw [h0.1]; exact h1⟩
    | nil =>
      refine ⟨r, C, rfl, ?_⟩
      rw [e1] at h0
      rcases hB with rfl | ⟨y, rfl, hy⟩
      · simp only [List.nil_append] at h0
        have := hC r0 (by rw [h0]; simp)
        omega
      · simp only [List.nil_append, List.singleton_append, List.cons.injEq] at h0
        rw [← hy, h0.1]; exact h1
  · rw [e2, e1]
    simp only [List.length_append, List.length_cons]
    omega
end
end Go.Proofs.Ytndofikacmhejaa.Pay
