/- People rising by their ids: what the search finds, what a record more turns. No statement of the seed is proved here. -/
import Derived.Test.YtndofikacmhejaaMaH
namespace Go.Proofs.Ytndofikacmhejaa.Pay
open Go Go.RowKit
set_option linter.unusedVariables false
set_option linter.unusedSimpArgs false

theorem bs_spec {lt : Nat → Bool} {n : Nat} (hm : ∀ a b, a ≤ b → b < n → lt b = true → lt a = true) : ∀ {f i j : Nat}, j - i ≤ f → i ≤ j → j ≤ n → (∀ k, k < i → lt k = true) → (∀ k, j ≤ k → k < n → lt k = false) →
    (∀ k, k < bs lt i j → lt k = true) ∧ (∀ k, bs lt i j ≤ k → k < n → lt k = false)
  | 0, i, j, h, h1, h2, h3, h4 => by
    unfold bs
    rw [dif_neg (by omega)]
    exact ⟨h3, fun k hk => h4 k (by omega)⟩
  | f + 1, i, j, h, h1, h2, h3, h4 => by
    unfold bs
    by_cases hij : i < j
    · rw [dif_pos hij]
      split
      · rename_i hl
        exact bs_spec hm (f := f) (by omega) (by omega) h2 (fun k hk => hm k _ (by omega) (by omega) hl) h4
      · rename_i hl
        refine bs_spec hm (f := f) (by omega) (by omega) (by omega) h3 fun k hk hk' => ?_
        cases hlk : lt k with
        | false => rfl
        | true => exact absurd (hm _ _ hk hk' hlk) (by simpa using hl)
    · rw [dif_neg hij]
      exact ⟨h3, fun k hk => h4 k (by omega)⟩

section
variable {α : Type} {cmp : α → Int} {key : α → Int} {x : Int} {l : List α}
theorem srch_key (hs : (l.map key).Pairwise (· < ·)) (hc : ∀ a ∈ l, cmp a = key a - x) : (∀ k (hk : k < l.length), k < srch cmp l → key l[k] < x) ∧ (∀ k (hk : k < l.length), srch cmp l ≤ k → x ≤ key l[k]) := by
  have hlt : ∀ k (hk : k < l.length), ltAt cmp l k = decide (key l[k] < x) := fun k hk => by
    rw [ltAt_get hk, hc _ (List.getElem_mem hk)]
    by_cases h : key l[k] < x
    · rw [decide_eq_true h, decide_eq_true (by omega)]
    · rw [decide_eq_false h, decide_eq_false (by omega)]
  have hmono : ∀ a b (hb : b < l.length) (hab : a ≤ b), key (l[a]'(by omega)) ≤ key l[b] := fun a b hb hab => by
    by_cases h : a = b
    · subst h; omega
    · have := List.pairwise_iff_getElem.1 hs a b (by simp; omega) (by simpa using hb) (by omega)
      simp only [List.getElem_map] at this
      omega
  obtain ⟨h1, h2⟩ := bs_spec (lt := ltAt cmp l) (n := l.length) (fun a b hab hb h => by
    rw [hlt b hb] at h
    rw [hlt a (by omega)]
    have := hmono a b hb hab
    simp only [decide_eq_true_eq] at h ⊢
    omega) (f := l.length) (i := 0) (j := l.length) (by omega) (by omega) (by omega) (by omega) (by omega)
  refine ⟨fun k hk h => ?_, fun k hk h => ?_⟩
  · have := h1 k h
    rw [hlt k hk] at this
    simpa using this
  · have := h2 k h hk
    rw [hlt k hk] at this
    simpa using this
theorem srchB_key (hs : (l.map key).Pairwise (· < ·)) (hc : ∀ a ∈ l, cmp a = key a - x) : srchB cmp l = true ↔ ∃ a ∈ l, key a = x := by
  obtain ⟨h1, h2⟩ := srch_key hs hc
  constructor
  · intro h
    have hlt := srchB_lt h
    unfold srchB at h
    rw [List.getElem?_eq_getElem hlt] at h
    simp only [decide_eq_true_eq] at h
    rw [hc _ (List.getElem_mem hlt)] at h
    exact ⟨_, List.getElem_mem hlt, by omega⟩
  · rintro ⟨a, ha, hx⟩
    obtain ⟨k, hk, rfl⟩ := List.getElem_of_mem ha
    have hle : srch cmp l ≤ k := by
      by_cases h : srch cmp l ≤ k
      · exact h
      · have := h1 k hk (by omega); omega
    have hlt : srch cmp l < l.length := by omega
    have h3 := h2 _ hlt (Nat.le_refl _)
    have h4 : key l[srch cmp l] ≤ key l[k] := by
      by_cases h : srch cmp l = k
      · simp only [h]; omega
      · have := List.pairwise_iff_getElem.1 hs (srch cmp l) k (by simpa using hlt) (by simpa using hk) (by omega)
        simp only [List.getElem_map] at this
        omega
    unfold srchB
    rw [List.getElem?_eq_getElem hlt]
    simp only [decide_eq_true_eq]
    rw [hc _ (List.getElem_mem hlt)]
    omega
theorem srch_at (hs : (l.map key).Pairwise (· < ·)) (hc : ∀ a ∈ l, cmp a = key a - x) {k : Nat} (hk : k < l.length) (hx : key l[k] = x) : srch cmp l = k := by
  obtain ⟨h1, h2⟩ := srch_key hs hc
  have hb := (srchB_key hs hc).2 ⟨_, List.getElem_mem hk, hx⟩
  have hlt := srchB_lt hb
  by_cases h : k < srch cmp l
  · have := h1 k hk h; omega
  · by_cases h' : srch cmp l = k
    · exact h'
    · have h3 := h2 _ hlt (Nat.le_refl _)
      have := List.pairwise_iff_getElem.1 hs (srch cmp l) k (by simpa using hlt) (by simpa using hk) (by omega)
      simp only [List.getElem_map] at this
      omega
/-- What is put in stands in order. -/
theorem ins_srt (hs : (l.map key).Pairwise (· < ·)) (hc : ∀ a ∈ l, cmp a = key a - x) (hb : srchB cmp l = false) {y : α} (hy : key y = x) : ((l.take (srch cmp l) ++ y :: l.drop (srch cmp l)).map key).Pairwise (· < ·) := by
  obtain ⟨h1, h2⟩ := srch_key hs hc
  have hne : ∀ a ∈ l, key a ≠ x := fun a ha h => by
    have := (srchB_key hs hc).2 ⟨a, ha, h⟩
    rw [hb] at this; cases this
  rw [← List.take_append_drop (srch cmp l) l] at hs
  simp only [List.map_append, List.map_cons, List.pairwise_append, List.pairwise_cons] at hs ⊢
  obtain ⟨p1, p2, p3⟩ := hs
  have q1 : ∀ a ∈ (l.take (srch cmp l)).map key, a < x := fun a ha => by
    obtain ⟨b, hb', rfl⟩ := List.mem_map.1 ha
    obtain ⟨k, hk, rfl⟩ := List.mem_take_iff_getElem.1 hb'
    exact h1 k (by omega) (by omega)
  have q2 : ∀ a ∈ (l.drop (srch cmp l)).map key, x < a := fun a ha => by
    obtain ⟨b, hb', rfl⟩ := List.mem_map.1 ha
    have hm := List.mem_of_mem_drop hb'
    obtain ⟨k, hk, rfl⟩ := List.mem_drop_iff_getElem.1 hb'
    have := h2 (srch cmp l + k) (by omega) (by omega)
    have := hne _ hm
    omega
  refine ⟨p1, ⟨fun a ha => by rw [hy]; exact q2 a ha, p2⟩, fun a ha b hb' => ?_⟩
  rcases List.mem_cons.1 hb' with rfl | hb'
  · rw [hy]; exact q1 a ha
  · exact p3 a ha b hb'
end

def Srt (l : List Per) : Prop := (l.map Per.id).Pairwise (· < ·) ∧ ∀ x ∈ l.map Per.id, 1 ≤ x ∧ x ≤ 2147483647
theorem perCmp_zero {p : Per} {id : Int} (h : 1 ≤ p.id ∧ p.id ≤ 2147483647) (hi : -9223372036854775808 ≤ id ∧ id ≤ 9223372036854775807) : perCmp id p = 0 ↔ p.id = id := by
  unfold perCmp; rw [IntKind.wrap_i64]; omega
theorem Srt.id {l : List Per} (h : Srt l) {p : Per} (hp : p ∈ l) : 1 ≤ p.id ∧ p.id ≤ 2147483647 := h.2 _ (List.mem_map.2 ⟨p, hp, rfl⟩)
theorem Srt.cmp {l : List Per} (h : Srt l) {id : Int} (hi : 1 ≤ id ∧ id ≤ 2147483647) : ∀ p ∈ l, perCmp id p = p.id - id := fun p hp => by
  have := h.id hp
  unfold perCmp; rw [IntKind.wrap_i64]; omega
/-- The person of an id. -/
def pOf (l : List Per) (id : Int) : Per := (l[srch (perCmp id) l]?).getD noPer
theorem Srt.there {l : List Per} (h : Srt l) {id : Int} (hi : -9223372036854775808 ≤ id ∧ id ≤ 9223372036854775807) : srchB (perCmp id) l = true ↔ ∃ p ∈ l, p.id = id := by
  constructor
  · intro hb
    have hlt := srchB_lt hb
    unfold srchB at hb
    rw [List.getElem?_eq_getElem hlt] at hb
    simp only [decide_eq_true_eq] at hb
    exact ⟨_, List.getElem_mem hlt, (perCmp_zero (h.id (List.getElem_mem hlt)) hi).1 hb⟩
  · rintro ⟨p, hp, rfl⟩
    exact (srchB_key h.1 (h.cmp (h.id hp))).2 ⟨p, hp, rfl⟩
theorem Srt.inj {l : List Per} (h : Srt l) {i j : Nat} (hi : i < l.length) (hj : j < l.length) (he : l[i].id = l[j].id) : i = j := by
  have key : ∀ a b (ha : a < l.length) (hb : b < l.length), a < b → l[a].id < l[b].id := fun a b ha hb hab => by
    have := List.pairwise_iff_getElem.1 h.1 a b (by simpa using ha) (by simpa using hb) hab
    simpa only [List.getElem_map] using this
  by_cases h1 : i < j
  · have := key i j hi hj h1; omega
  · by_cases h2 : j < i
    · have := key j i hj hi h2; omega
    · omega
theorem Srt.at {l : List Per} (h : Srt l) {k : Nat} (hk : k < l.length) : srch (perCmp l[k].id) l = k := srch_at h.1 (h.cmp (h.id (List.getElem_mem hk))) hk rfl
theorem Srt.of {l : List Per} (h : Srt l) {p : Per} (hp : p ∈ l) : srchB (perCmp p.id) l = true ∧ pOf l p.id = p := by
  refine ⟨(srchB_key h.1 (h.cmp (h.id hp))).2 ⟨p, hp, rfl⟩, ?_⟩
  obtain ⟨k, hk, rfl⟩ := List.getElem_of_mem hp
  unfold pOf
  rw [h.at hk, List.getElem?_eq_getElem hk]; rfl
theorem Srt.find {l : List Per} (h : Srt l) {p : Per} (hp : p ∈ l) : findS l p.id = (p, 0) := by
  obtain ⟨h1, h2⟩ := h.of hp
  unfold findS
  rw [if_pos h1]
  exact congrArg (·, (0 : Int)) h2
theorem Srt.none {l : List Per} (h : Srt l) {id : Int} (hi : -9223372036854775808 ≤ id ∧ id ≤ 9223372036854775807) (hn : ∀ p ∈ l, p.id ≠ id) : srchB (perCmp id) l = false := by
  cases hb : srchB (perCmp id) l with
  | false => rfl
  | true => obtain ⟨p, hp, he⟩ := (h.there hi).1 hb; exact absurd he (hn p hp)
theorem Srt.uniq {l : List Per} (h : Srt l) {p q : Per} (hp : p ∈ l) (hq : q ∈ l) (he : p.id = q.id) : p = q := by
  obtain ⟨i, hi, rfl⟩ := List.getElem_of_mem hp
  obtain ⟨j, hj, rfl⟩ := List.getElem_of_mem hq
  have := h.inj hi hj he
  subst this; rfl
/-- One person is turned. -/
theorem Srt.set {l : List Per} (h : Srt l) {k : Nat} (hk : k < l.length) {p : Per} (hp : p.id = l[k].id) : Srt (l.set k p) ∧ (l.set k p).map Per.id = l.map Per.id := by
  have : (l.set k p).map Per.id = l.map Per.id := by
    rw [List.map_set]
    apply List.ext_getElem?
    intro j
    rw [List.getElem?_set]
    by_cases hj : k = j
    · subst hj
      rw [if_pos rfl, if_pos (by simpa using hk), List.getElem?_eq_getElem (by simpa using hk), List.getElem_map, hp]
    · rw [if_neg hj]
  refine ⟨?_, this⟩
  unfold Srt
  rw [this]; exact h
theorem mem_set {l : List Per} {k : Nat} {p q : Per} (hk : k < l.length) (hq : q ∈ l.set k p) : q = p ∨ q ∈ l := by
  rcases List.mem_or_eq_of_mem_set hq with h | h
  · exact .inr h
  · exact .inl h

/-! ### Records -/
theorem recCmp_eq {r : Rec} {f : Int} (h : 0 ≤ r.frm ∧ r.frm ≤ 1000000) (hf : 0 ≤ f ∧ f ≤ 1000000) : recCmp f r = r.frm - f := by
  unfold recCmp; rw [IntKind.wrap_i64]; omega
def RSrt (l : List Rec) : Prop := (l.map Rec.frm).Pairwise (· < ·) ∧ ∀ r ∈ l, 22800 ≤ r.frm ∧ r.frm ≤ 35999
/-- What a record more makes of records. -/
theorem recS_eq {l : List Rec} (h : RSrt l) {r : Rec} (hr : 22800 ≤ r.frm ∧ r.frm ≤ 35999) : ∃ A B C, l = A ++ B ++ C ∧ recS l r = A ++ r :: C ∧ (∀ x ∈ A, x.frm < r.frm) ∧ (∀ x ∈ C, r.frm < x.frm) ∧ (B = [] ∨ ∃ y, B = [y] ∧ y.frm = r.frm) := by
  have hc : ∀ a ∈ l, recCmp r.frm a = a.frm - r.frm := fun a ha => recCmp_eq (by have := h.2 a ha; omega) (by omega)
  obtain ⟨h1, h2⟩ := srch_key h.1 hc
  have q1 : ∀ x ∈ l.take (srch (recCmp r.frm) l), x.frm < r.frm := fun x hx => by
    obtain ⟨k, hk, rfl⟩ := List.mem_take_iff_getElem.1 hx
    exact h1 k (by omega) (by omega)
  unfold recS
  cases hb : srchB (recCmp r.frm) l with
  | true =>
    have hlt := srchB_lt hb
    have hx : l[srch (recCmp r.frm) l].frm = r.frm := by
      obtain ⟨a, ha, he⟩ := (srchB_key h.1 hc).1 hb
      obtain ⟨k, hk, rfl⟩ := List.getElem_of_mem ha
      have := srch_at h.1 hc hk he
      simp only [this]; exact he
    refine ⟨l.take (srch (recCmp r.frm) l), [l[srch (recCmp r.frm) l]], l.drop (srch (recCmp r.frm) l + 1), ?_, ?_, q1, fun x hx' => ?_, .inr ⟨_, rfl, hx⟩⟩
    · rw [List.append_assoc, List.singleton_append, List.getElem_cons_drop, List.take_append_drop]
    · rw [if_pos rfl, List.set_eq_take_append_cons_drop, if_pos hlt]
    · obtain ⟨k, hk, rfl⟩ := List.mem_drop_iff_getElem.1 hx'
      have := List.pairwise_iff_getElem.1 h.1 (srch (recCmp r.frm) l) (srch (recCmp r.frm) l + 1 + k) (by simpa using hlt) (by simp; omega) (by omega)
      simp only [List.getElem_map] at this
      omega
  | false =>
    refine ⟨l.take (srch (recCmp r.frm) l), [], l.drop (srch (recCmp r.frm) l), by simp, by simp, q1, fun x hx' => ?_, .inl rfl⟩
    have hm := List.mem_of_mem_drop hx'
    obtain ⟨k, hk, rfl⟩ := List.mem_drop_iff_getElem.1 hx'
    have h3 := h2 (srch (recCmp r.frm) l + k) (by omega) (by omega)
    have h4 : l[srch (recCmp r.frm) l + k].frm ≠ r.frm := fun he => by
      have := (srchB_key h.1 hc).2 ⟨_, hm, he⟩
      rw [hb] at this; cases this
    omega
theorem fold_above {when : Int} : ∀ {l : List Rec} {o : Rec}, (∀ x ∈ l, when < x.frm) → l.foldl (onStep when) o = o
  | [], o, _ => rfl
  | x :: l, o, h => by
    have := h x (by simp)
    rw [List.foldl_cons, show onStep when o x = o from if_neg (by omega)]
    exact fold_above fun y hy => h y (by simp [hy])
end Go.Proofs.Ytndofikacmhejaa.Pay
