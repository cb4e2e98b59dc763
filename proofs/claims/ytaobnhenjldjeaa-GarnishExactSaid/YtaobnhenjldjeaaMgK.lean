/- The texts GaA, GaE, GaF, SpY, GaG, GaP, one behind the other. No statement of the seed is proved here. -/
import Derived.Test.YtaobnhenjldjeaaMgJ
/- What orders are served, plain. No statement of the seed is proved here. -/
namespace Go.Proofs.Ytaobnhenjldjeaa.Pay
open Go Go.RowKit
set_option linter.unusedVariables false
set_option linter.unusedSimpArgs false
set_option linter.unusedSectionVars false

def sumF (f : Nat → Int) (n : Nat) : Int := ((List.range n).map f).sum
theorem sumF_step (f : Nat → Int) (n : Nat) : sumF f (n + 1) = sumF f n + f n := by
  unfold sumF
  rw [List.range_succ, List.map_append, List.sum_append]; simp
theorem sumF_zero (f : Nat → Int) : sumF f 0 = 0 := rfl
theorem sumF_congr {f g : Nat → Int} : ∀ {n : Nat}, (∀ i, i < n → f i = g i) → sumF f n = sumF g n
  | 0, _ => rfl
  | n + 1, h => by rw [sumF_step, sumF_step, sumF_congr fun i hi => h i (by omega), h n (by omega)]
theorem sumF_add (f g : Nat → Int) : ∀ n : Nat, sumF (fun i => f i + g i) n = sumF f n + sumF g n
  | 0 => rfl
  | n + 1 => by rw [sumF_step, sumF_step, sumF_step, sumF_add f g n]; omega
theorem sumF_le {f g : Nat → Int} : ∀ {n : Nat}, (∀ i, i < n → f i ≤ g i) → sumF f n ≤ sumF g n
  | 0, _ => Int.le_refl _
  | n + 1, h => by
    have h1 := sumF_le (n := n) fun i hi => h i (by omega)
    have h2 := h n (by omega)
    rw [sumF_step, sumF_step]; omega
theorem sumF_none (n : Nat) : sumF (fun _ => 0) n = 0 := by
  induction n with
  | zero => rfl
  | succ n ih => rw [sumF_step, ih]; rfl
theorem sumF_pos {f : Nat → Int} {n : Nat} (h : ∀ i, i < n → 0 ≤ f i) : 0 ≤ sumF f n := by
  have := sumF_le (f := fun _ => 0) (g := f) h
  rw [sumF_none] at this; exact this
theorem sumF_one {f : Nat → Int} {n i : Nat} (h : ∀ i, i < n → 0 ≤ f i) (hi : i < n) : f i ≤ sumF f n := by
  induction n with
  | zero => omega
  | succ n ih =>
    have h1 := sumF_pos (n := n) fun i hi => h i (by omega)
    have h2 := h n (by omega)
    rw [sumF_step]
    by_cases hn : i = n
    · subst hn; omega
    · have := ih (fun i hi => h i (by omega)) (by omega)
      omega
theorem sumF_big {f : Nat → Int} {b : Int} (hb : 0 ≤ b) : ∀ {n : Nat}, (∀ i, i < n → f i ≤ b) → sumF f n ≤ n * b
  | 0, _ => by simp [sumF_zero]
  | n + 1, h => by
    have h1 := sumF_big hb (n := n) fun i hi => h i (by omega)
    have h2 := h n (by omega)
    rw [sumF_step, Int.natCast_add, Int.add_mul]; omega
theorem sum_filt (f : Nat → Int) (p : Nat → Bool) : ∀ n : Nat, (((List.range n).filter p).map f).sum = sumF (fun i => if p i = true then f i else 0) n
  | 0 => rfl
  | n + 1 => by
    rw [sumF_step, List.range_succ, List.filter_append, List.map_append, List.sum_append, sum_filt f p n]
    cases h : p n <;> simp [h]

/-- The places whose P is p, and their wants. -/
def atN (P : Nat → Int) (n : Nat) (p : Int) : List Nat := (List.range n).filter fun i => decide (P i = p)
def wN (P W : Nat → Int) (n : Nat) (p : Int) : List Int := (atN P n p).map W
/-- All wants ahead of p; what is there for p. -/
def lowS (P W : Nat → Int) (n : Nat) (p : Int) : Int := sumF (fun i => if P i < p then W i else 0) n
def at0 (x : Int) : Int := if x < 0 then 0 else x
def thN (A : Int) (P W : Nat → Int) (n : Nat) (p : Int) : Int := at0 (A - lowS P W n p)
def pN (A : Int) (P W : Nat → Int) (n : Nat) (p : Int) : List Int := if thN A P W n p < (wN P W n p).sum then spS (thN A P W n p) (wN P W n p) else wN P W n p
def posN (P : Nat → Int) (i : Nat) : Nat := (atN P i (P i)).length
/-- What the order at place i is paid. -/
def outN (A : Int) (P W : Nat → Int) (n i : Nat) : Int := ((pN A P W n (P i))[posN P i]?).getD 0
section
variable {A : Int} {P W : Nat → Int} {n : Nat}
theorem atN_step (p : Int) : atN P (n + 1) p = if P n = p then atN P n p ++ [n] else atN P n p := by
  unfold atN
  rw [List.range_succ, List.filter_append]
  by_cases h : P n = p
  · rw [if_pos h]; simp [h]
  · rw [if_neg h]; simp [h]
theorem wN_step (p : Int) : wN P W (n + 1) p = if P n = p then wN P W n p ++ [W n] else wN P W n p := by
  unfold wN
  rw [atN_step]
  split
  · rw [List.map_append]; rfl
  · rfl
theorem wN_len (p : Int) : (wN P W n p).length = (atN P n p).length := by simp [wN]
theorem atN_len (p : Int) : (atN P n p).length ≤ n := by
  have := List.length_filter_le (fun i => decide (P i = p)) (List.range n)
  simpa [atN] using this
theorem atN_mem {p : Int} {i : Nat} : i ∈ atN P n p ↔ i < n ∧ P i = p := by simp [atN]
theorem wN_sum (p : Int) : (wN P W n p).sum = sumF (fun i => if P i = p then W i else 0) n := by
  unfold wN atN
  rw [sum_filt]
  exact sumF_congr fun i _ => by simp
/-- The j-th place of a group. -/
theorem atN_pos {p : Int} {j i : Nat} (h : (atN P n p)[j]? = some i) : i < n ∧ P i = p ∧ posN P i = j := by
  induction n with
  | zero => simp [atN] at h
  | succ n ih =>
    rw [atN_step] at h
    by_cases hp : P n = p
    · rw [if_pos hp] at h
      by_cases hj : j < (atN P n p).length
      · rw [List.getElem?_append_left hj] at h
        obtain ⟨h1, h2, h3⟩ := ih h
        exact ⟨by omega, h2, h3⟩
      · rw [List.getElem?_append_right (by omega)] at h
        have : j - (atN P n p).length = 0 := by
          rcases hz : j - (atN P n p).length with _ | m
          · rfl
          · rw [hz] at h; simp at h
        rw [this] at h
        simp at h
        subst h
        refine ⟨by omega, hp, ?_⟩
        unfold posN
        rw [hp]; omega
    · rw [if_neg hp] at h
      obtain ⟨h1, h2, h3⟩ := ih h
      exact ⟨by omega, h2, h3⟩
theorem atN_at {i : Nat} (hi : i < n) : (atN P n (P i))[posN P i]? = some i := by
  have hm : i ∈ atN P n (P i) := atN_mem.2 ⟨hi, rfl⟩
  obtain ⟨j, hj, e⟩ := List.getElem_of_mem hm
  have h := List.getElem?_eq_getElem hj
  rw [e] at h
  rw [(atN_pos h).2.2, h]

structure GoodN (A : Int) (P W : Nat → Int) (n : Nat) : Prop where
  A0 : 0 ≤ A
  n8 : n ≤ 8
  w0 : ∀ i, i < n → 0 ≤ W i
  wb : ∀ i, i < n → W i ≤ 1125899906842624
theorem wN_ok (g : GoodN A P W n) (p : Int) : (wN P W n p).length ≤ 8 ∧ (∀ x ∈ wN P W n p, 0 ≤ x ∧ x ≤ 1125899906842624) ∧ 0 ≤ (wN P W n p).sum ∧ (wN P W n p).sum ≤ 9007199254740992 := by
  have h1 : ∀ i, i < n → 0 ≤ (if P i = p then W i else 0) ∧ (if P i = p then W i else 0) ≤ 1125899906842624 := fun i hi => by
    have := g.w0 i hi
    have := g.wb i hi
    split <;> omega
  refine ⟨by rw [wN_len]; exact Nat.le_trans (atN_len p) g.n8, fun x hx => ?_, ?_, ?_⟩
  · unfold wN at hx
    obtain ⟨i, hi, rfl⟩ := List.mem_map.1 hx
    have hi := (atN_mem.1 hi).1
    exact ⟨g.w0 i hi, g.wb i hi⟩
  · rw [wN_sum]; exact sumF_pos fun i hi => (h1 i hi).1
  · rw [wN_sum]
    have := sumF_big (b := 1125899906842624) (by decide) fun i hi => (h1 i hi).2
    have := g.n8
    omega
theorem at0_pos (x : Int) : 0 ≤ at0 x := by unfold at0; split <;> omega
theorem pN_spE (g : GoodN A P W n) {p : Int} (h : thN A P W n p < (wN P W n p).sum) : spE (thN A P W n p) (wN P W n p) = 0 := by
  obtain ⟨h1, h2, h3, h4⟩ := wN_ok g p
  have := at0_pos (A - lowS P W n p)
  unfold thN at h ⊢
  rw [spE_ok (by omega) this fun x hx => (h2 x hx).1, if_neg (by omega), if_neg (by omega)]
theorem pt_le {t s n i : Nat} {w : Nat → Nat} (hs : 0 < s) (hw : sumN w n = s) (hts : t < s) (hi : i < n) : ptN t s n w i ≤ w i := by
  by_cases h0 : w i = 0
  · rw [pt_zero hs hw hi h0]; omega
  · have h1 : t * w i / s < w i := by
      rw [Nat.div_lt_iff_lt_mul hs, Nat.mul_comm]
      exact Nat.mul_lt_mul_of_pos_left hts (by omega)
    unfold ptN
    split <;> omega
/-- Parts are told: as many as the group has; none below 0 nor above its weight; together what is there. -/
theorem pN_ok (g : GoodN A P W n) (p : Int) : (pN A P W n p).length = (atN P n p).length ∧ (∀ j (h : j < (pN A P W n p).length) (h' : j < (wN P W n p).length), 0 ≤ (pN A P W n p)[j] ∧ (pN A P W n p)[j] ≤ (wN P W n p)[j]) ∧ (pN A P W n p).sum = if thN A P W n p < (wN P W n p).sum then thN A P W n p else (wN P W n p).sum := by
  obtain ⟨h1, h2, h3, h4⟩ := wN_ok g p
  unfold pN
  split
  · rename_i h
    have he := pN_spE g h
    have hwh := whole he
    obtain ⟨t, s, w, ha⟩ := asked he
    have hpt := spS_pt he ha
    refine ⟨by rw [hwh.len, wN_len], fun j hj hj' => ⟨hwh.pos j hj, ?_⟩, hwh.sum⟩
    have hwj : (wN P W n p)[j] = (w j : Int) := by rw [← ha.w_ j]; unfold spW; rw [List.getElem?_eq_getElem hj']; rfl
    have hts : t < s := by have := ha.t_; have := ha.s_; omega
    have hj2 : (spS (thN A P W n p) (wN P W n p))[j] = (ptN t s (wN P W n p).length w j : Int) := by simp [hpt]
    rw [hwj, hj2]
    have := pt_le ha.s0 ha.sw hts hj'
    omega
  · refine ⟨wN_len p, fun j hj hj' => ⟨(h2 _ (List.getElem_mem _)).1, Int.le_refl _⟩, rfl⟩
theorem outN_at (g : GoodN A P W n) {i : Nat} (hi : i < n) : ∃ (h : posN P i < (pN A P W n (P i)).length) (h' : posN P i < (wN P W n (P i)).length), outN A P W n i = (pN A P W n (P i))[posN P i] ∧ W i = (wN P W n (P i))[posN P i] := by
  have hat := atN_at (P := P) hi
  have hlt : posN P i < (atN P n (P i)).length := by
    rcases Nat.lt_or_ge (posN P i) (atN P n (P i)).length with h | h
    · exact h
    · rw [List.getElem?_eq_none h] at hat; simp at hat
  have h1 : posN P i < (pN A P W n (P i)).length := by rw [(pN_ok g _).1]; exact hlt
  have h2 : posN P i < (wN P W n (P i)).length := by rw [wN_len]; exact hlt
  refine ⟨h1, h2, by unfold outN; rw [List.getElem?_eq_getElem h1]; rfl, ?_⟩
  have h3 : (wN P W n (P i))[posN P i]? = some (W i) := by unfold wN; rw [List.getElem?_map, hat]; rfl
  rw [List.getElem?_eq_getElem h2] at h3
  exact (Option.some.inj h3).symm
/-- No order is paid more than its want. -/
theorem outN_le (g : GoodN A P W n) {i : Nat} (hi : i < n) : 0 ≤ outN A P W n i ∧ outN A P W n i ≤ W i := by
  obtain ⟨h1, h2, e1, e2⟩ := outN_at g hi
  have h3 := (pN_ok g (P i)).2.1 (posN P i) h1 h2
  rw [← e1, ← e2] at h3
  exact h3
theorem outN_all (g : GoodN A P W n) {i : Nat} (hi : i < n) (h : (wN P W n (P i)).sum ≤ thN A P W n (P i)) : outN A P W n i = W i := by
  obtain ⟨h1, h2, e1, e2⟩ := outN_at g hi
  rw [e1, e2]
  have : pN A P W n (P i) = wN P W n (P i) := if_neg (by omega)
  simp only [this]
theorem sum_mem {l : List Int} (h : ∀ x ∈ l, 0 ≤ x) {x : Int} (hx : x ∈ l) : x ≤ l.sum := by
  induction l with
  | nil => simp at hx
  | cons y l ih =>
    have h1 := sum_nonneg (l := l) fun z hz => h z (by simp [hz])
    have h2 := h y (by simp)
    rw [List.sum_cons]
    rcases List.mem_cons.1 hx with rfl | hx
    · omega
    · have := ih (fun z hz => h z (by simp [hz])) hx
      omega
theorem outN_none (g : GoodN A P W n) {i : Nat} (hi : i < n) (h : thN A P W n (P i) ≤ 0) : outN A P W n i ≤ 0 := by
  obtain ⟨h1, h2, e1, e2⟩ := outN_at g hi
  obtain ⟨h3, h4, h5⟩ := pN_ok g (P i)
  have h6 := sum_mem (l := pN A P W n (P i)) (fun x hx => by
    obtain ⟨j, hj, rfl⟩ := List.getElem_of_mem hx
    exact (h4 j hj (by rw [wN_len, ← h3]; exact hj)).1) (List.getElem_mem h1)
  rw [h5] at h6
  rw [e1]
  split at h6 <;> omega
theorem low_next {p q : Int} (g : GoodN A P W n) (h : p < q) : lowS P W n p + (wN P W n p).sum ≤ lowS P W n q := by
  unfold lowS
  rw [wN_sum, ← sumF_add]
  refine sumF_le fun i hi => ?_
  have := g.w0 i hi
  by_cases h1 : P i < p
  · rw [if_pos h1, if_neg (by omega), if_pos (by omega)]; omega
  · by_cases h2 : P i = p
    · rw [if_neg h1, if_pos h2, if_pos (by omega)]; omega
    · rw [if_neg h1, if_neg h2]; split <;> omega
/-- Somebody later is paid only if all ahead have their wants. -/
theorem outN_first (g : GoodN A P W n) {i j : Nat} (hi : i < n) (hj : j < n) (hp : P j < P i) (h : 0 < outN A P W n i) : outN A P W n j = W j := by
  refine outN_all g hj ?_
  have h1 : 0 < thN A P W n (P i) := by
    rcases Int.lt_or_le 0 (thN A P W n (P i)) with h2 | h2
    · exact h2
    · have := outN_none g hi h2; omega
  have h3 := low_next g hp
  unfold thN at0 at h1 ⊢
  split at h1
  · omega
  · split <;> omega

/-- All priorities, rising, each once. -/
structure Prs (P : Nat → Int) (n : Nat) (ps : List Int) : Prop where
  up : ∀ i j (hi : i < ps.length) (hj : j < ps.length), i < j → ps[i] < ps[j]
  all : ∀ i, i < n → P i ∈ ps
  some : ∀ p ∈ ps, ∃ i, i < n ∧ P i = p
def ahS (P W : Nat → Int) (n : Nat) (ps : List Int) (k : Nat) : Int := sumF (fun i => if P i ∈ ps.take k then W i else 0) n
variable {ps : List Int}
theorem Prs.take (h : Prs P n ps) {k i : Nat} (hk : k < ps.length) (hi : i < n) : P i ∈ ps.take k ↔ P i < ps[k] := by
  constructor
  · intro hm
    obtain ⟨j, hj, e⟩ := List.getElem_of_mem hm
    rw [List.getElem_take] at e
    rw [List.length_take] at hj
    rw [← e]
    exact h.up j k (by omega) hk (by omega)
  · intro hlt
    obtain ⟨j, hj, e⟩ := List.getElem_of_mem (h.all i hi)
    have hjk : j < k := by
      rcases Nat.lt_trichotomy j k with h1 | h1 | h1
      · exact h1
      · subst h1; omega
      · have := h.up k j hk hj h1; omega
    rw [← e]
    exact List.mem_take_iff_getElem.2 ⟨j, by omega, rfl⟩
theorem Prs.low (h : Prs P n ps) {k : Nat} (hk : k < ps.length) : ahS P W n ps k = lowS P W n ps[k] := by
  unfold ahS lowS
  refine sumF_congr fun i hi => ?_
  have := h.take hk hi
  by_cases h1 : P i < ps[k]
  · rw [if_pos (this.2 h1), if_pos h1]
  · rw [if_neg (fun q => h1 (this.1 q)), if_neg h1]
theorem take_in {k : Nat} (hk : k < ps.length) {x : Int} : x ∈ ps.take (k + 1) ↔ x ∈ ps.take k ∨ x = ps[k] := by
  rw [List.take_add_one, List.getElem?_eq_getElem hk]; simp only [Option.toList_some, List.mem_append, List.mem_singleton]
theorem Prs.not (h : Prs P n ps) {k : Nat} (hk : k < ps.length) : ¬ ps[k] ∈ ps.take k := fun hm => by
  obtain ⟨j, hj, e⟩ := List.getElem_of_mem hm
  rw [List.getElem_take] at e
  rw [List.length_take] at hj
  have := h.up j k (by omega) hk (by omega)
  omega
theorem Prs.ahead (h : Prs P n ps) (f : Nat → Int) {k : Nat} (hk : k < ps.length) : sumF (fun i => if P i ∈ ps.take (k + 1) then f i else 0) n = sumF (fun i => if P i ∈ ps.take k then f i else 0) n + sumF (fun i => if P i = ps[k] then f i else 0) n := by
  rw [← sumF_add]
  refine sumF_congr fun i hi => ?_
  have h1 := take_in hk (x := P i)
  have h2 := h.not hk
  by_cases e : P i = ps[k]
  · rw [if_pos (h1.2 (.inr e)), if_pos e, if_neg (by rw [e]; exact h2)]; omega
  · by_cases e2 : P i ∈ ps.take k
    · rw [if_pos (h1.2 (.inl e2)), if_pos e2, if_neg e]; omega
    · rw [if_neg (fun q => (h1.1 q).elim e2 e), if_neg e2, if_neg e]; rfl
theorem outs (g : GoodN A P W n) (p : Int) : (atN P n p).map (outN A P W n) = pN A P W n p := by
  apply List.ext_getElem?
  intro j
  rw [List.getElem?_map]
  cases h : (atN P n p)[j]? with
  | none =>
    rw [List.getElem?_eq_none_iff] at h
    rw [List.getElem?_eq_none (by rw [(pN_ok g p).1]; exact h)]; rfl
  | some i =>
    obtain ⟨h1, h2, h3⟩ := atN_pos h
    have hlt : j < (atN P n p).length := by
      rcases Nat.lt_or_ge j (atN P n p).length with q | q
      · exact q
      · rw [List.getElem?_eq_none q] at h; simp at h
    have hlt2 : j < (pN A P W n p).length := by rw [(pN_ok g p).1]; exact hlt
    show some (outN A P W n i) = _
    unfold outN
    rw [h2, h3, List.getElem?_eq_getElem hlt2]; rfl
theorem outs_sum (g : GoodN A P W n) (p : Int) : sumF (fun i => if P i = p then outN A P W n i else 0) n = (pN A P W n p).sum := by
  rw [← outs g p, atN, sum_filt]
  exact sumF_congr fun i _ => by simp
theorem th_next (g : GoodN A P W n) (h : Prs P n ps) {k : Nat} (hk : k < ps.length) : thN A P W n ps[k] = at0 (A - ahS P W n ps k) ∧ ahS P W n ps (k + 1) = ahS P W n ps k + (wN P W n ps[k]).sum ∧ at0 (A - ahS P W n ps (k + 1)) = at0 (A - ahS P W n ps k) - (pN A P W n ps[k]).sum := by
  have h1 : thN A P W n ps[k] = at0 (A - ahS P W n ps k) := by unfold thN; rw [h.low hk]
  have h2 : ahS P W n ps (k + 1) = ahS P W n ps k + (wN P W n ps[k]).sum := by rw [wN_sum]; exact h.ahead W hk
  refine ⟨h1, h2, ?_⟩
  have h3 := (wN_ok g ps[k]).2.2.1
  rw [(pN_ok g ps[k]).2.2, h2, h1]
  unfold at0
  split <;> split <;> (try split) <;> omega
/-- All together are paid what there is, or what they want. -/
theorem out_sum (g : GoodN A P W n) (h : Prs P n ps) : sumF (outN A P W n) n = A - at0 (A - sumF W n) := by
  have key : ∀ k, k ≤ ps.length → sumF (fun i => if P i ∈ ps.take k then outN A P W n i else 0) n = A - at0 (A - ahS P W n ps k) := fun k => by
    induction k with
    | zero =>
      intro _
      have e1 : sumF (fun i => if P i ∈ ps.take 0 then outN A P W n i else 0) n = 0 := (sumF_congr fun i _ => by simp).trans (sumF_none n)
      have e2 : ahS P W n ps 0 = 0 := (sumF_congr fun i _ => by simp).trans (sumF_none n)
      rw [e1, e2]
      have := g.A0
      unfold at0; split <;> omega
    | succ k ih =>
      intro hk
      rw [h.ahead _ hk, ih (by omega), outs_sum g, (th_next g h hk).2.2]; omega
  have h1 := key ps.length (Nat.le_refl _)
  have e : ∀ f : Nat → Int, sumF (fun i => if P i ∈ ps.take ps.length then f i else 0) n = sumF f n := fun f => sumF_congr fun i hi => by
    rw [List.take_of_length_le (Nat.le_refl _), if_pos (h.all i hi)]
  unfold ahS at h1
  rw [e, e] at h1
  exact h1

/-- Alone in its priority. -/
theorem outN_alone (g : GoodN A P W n) {i : Nat} (hi : i < n) (h : ∀ j, j < n → j ≠ i → P j ≠ P i) : outN A P W n i = if W i ≤ thN A P W n (P i) then W i else thN A P W n (P i) := by
  have hs : (wN P W n (P i)).sum = W i := by
    rw [wN_sum]
    have : ∀ m, m ≤ n → sumF (fun j => if P j = P i then W j else 0) m = if i < m then W i else 0 := fun m => by
      induction m with
      | zero => intro _; rfl
      | succ m ih =>
        intro hm
        rw [sumF_step, ih (by omega)]
        by_cases e : m = i
        · subst e; simp
        · have h1 := h m (by omega) e
          rw [if_neg h1]
          by_cases e2 : i < m
          · rw [if_pos e2, if_pos (by omega)]; omega
          · rw [if_neg e2, if_neg (by omega)]; rfl
    rw [this n (Nat.le_refl _), if_pos hi]
  have hsum := outs_sum g (P i)
  have hone : sumF (fun j => if P j = P i then outN A P W n j else 0) n = outN A P W n i := by
    have : ∀ m, m ≤ n → sumF (fun j => if P j = P i then outN A P W n j else 0) m = if i < m then outN A P W n i else 0 := fun m => by
      induction m with
      | zero => intro _; rfl
      | succ m ih =>
        intro hm
        rw [sumF_step, ih (by omega)]
        by_cases e : m = i
        · subst e; simp
        · have h1 := h m (by omega) e
          rw [if_neg h1]
          by_cases e2 : i < m
          · rw [if_pos e2, if_pos (by omega)]; omega
          · rw [if_neg e2, if_neg (by omega)]; rfl
    rw [this n (Nat.le_refl _), if_pos hi]
  rw [← hone, hsum, (pN_ok g _).2.2, hs]
  split <;> split <;> omega
end
end Go.Proofs.Ytaobnhenjldjeaa.Pay
/- What garnish's small functions give. No statement of the seed is proved here. -/
namespace Go.Proofs.Ytaobnhenjldjeaa.Pay
open Go Go.RowKit
set_option linter.unusedVariables false
set_option linter.unusedSimpArgs false
set_option linter.unusedSectionVars false

structure Ord where
  cred : Int
  pri : Int
  claim : Int
  bal : Int
def Ord.cs (o : Ord) : List D := [dI o.cred, dI o.pri, dI o.claim, dI o.bal]
def Ord.enc (o : Ord) : D := .agg o.cs
def encOs (l : List Ord) : D := .list 4 (l.map Ord.enc)
attribute [simp] Ord.cs Ord.enc encOs
def Ord.want (o : Ord) : Int := min o.claim o.bal
theorem want_ok (o : Ord) : Gives Try.prog 18 [.d o.enc] (.d (dI o.want)) := by
  refine Gives.enter tabOk Try.func18 rfl (by show 1 ≤ 8; decide) ?_
  simp only [Try.f18]
  refine WpC.seq (WpC.ops tabOk (r := []) (by simp -implicitDefEqProofs [Ord.want] <;> rfl) rfl ?_)
  refine WpC.seq (WpC.ops tabOk (r := []) (by simp -implicitDefEqProofs [Ord.want] <;> rfl) rfl ?_)
  refine WpC.ret ?_
  try simp only [blockQ, seqQ]
  refine retD_i (by simp -implicitDefEqProofs [Ord.want] <;> rfl) (by simp -implicitDefEqProofs [Ord.want] <;> rfl) ?_
  simp -implicitDefEqProofs [Ord.want]
theorem chk1_ok (o : Ord) : Gives Try.prog 24 [.d o.enc] (.d (.bool (decide (o.claim < 0 ∨ o.bal < 0)))) := by
  refine Gives.enter tabOk Try.func24 rfl (by show 1 ≤ 11; decide) ?_
  simp only [Try.f24]
  refine WpC.seq (WpC.ops tabOk (r := []) (by simp -implicitDefEqProofs <;> rfl) rfl ?_)
  refine WpC.seq ?_
  refine WpC.region ?_
  refine WpO.run tabOk 4 (by simp -implicitDefEqProofs <;> first | exact ⟨rfl, rfl⟩ | rfl) ?_
  refine WpO.splitB 6 (by simp -implicitDefEqProofs <;> rfl) (by rfl) (fun g6 => ?_) (fun g6 => ?_)
  · have g6' := g6; first | simp only [dT, dF] at g6' | try simp at g6'
    refine WpO.run tabOk 5 (by simp -implicitDefEqProofs [g6] <;> first | exact ⟨rfl, rfl⟩ | rfl) ?_
    refine WpO.nil ?_
    refine WpC.ret ?_
    try simp only [blockQ, seqQ]
    refine retD_i (by simp -implicitDefEqProofs [g6] <;> rfl) (by simp -implicitDefEqProofs [g6] <;> rfl) ?_
    simp_all <;> omega
  · have g6' := g6; first | simp only [dT, dF] at g6' | try simp at g6'
    refine WpO.run tabOk 5 (by simp -implicitDefEqProofs [g6] <;> first | exact ⟨rfl, rfl⟩ | rfl) ?_
    refine WpO.nil ?_
    refine WpC.ret ?_
    try simp only [blockQ, seqQ]
    refine retD_i (by simp -implicitDefEqProofs [g6] <;> rfl) (by simp -implicitDefEqProofs [g6] <;> rfl) ?_
    simp_all <;> omega
theorem chk2_ok (o : Ord) : Gives Try.prog 25 [.d o.enc] (.d (.bool (decide (1125899906842624 < o.claim ∨ 1125899906842624 < o.bal)))) := by
  refine Gives.enter tabOk Try.func25 rfl (by show 1 ≤ 11; decide) ?_
  simp only [Try.f25]
  refine WpC.seq (WpC.ops tabOk (r := []) (by simp -implicitDefEqProofs <;> rfl) rfl ?_)
  refine WpC.seq ?_
  refine WpC.region ?_
  refine WpO.run tabOk 4 (by simp -implicitDefEqProofs <;> first | exact ⟨rfl, rfl⟩ | rfl) ?_
  refine WpO.splitB 6 (by simp -implicitDefEqProofs <;> rfl) (by rfl) (fun g6 => ?_) (fun g6 => ?_)
  · have g6' := g6; first | simp only [dT, dF] at g6' | try simp at g6'
    refine WpO.run tabOk 5 (by simp -implicitDefEqProofs [g6] <;> first | exact ⟨rfl, rfl⟩ | rfl) ?_
    refine WpO.nil ?_
    refine WpC.ret ?_
    try simp only [blockQ, seqQ]
    refine retD_i (by simp -implicitDefEqProofs [g6] <;> rfl) (by simp -implicitDefEqProofs [g6] <;> rfl) ?_
    simp_all <;> omega
  · have g6' := g6; first | simp only [dT, dF] at g6' | try simp at g6'
    refine WpO.run tabOk 5 (by simp -implicitDefEqProofs [g6] <;> first | exact ⟨rfl, rfl⟩ | rfl) ?_
    refine WpO.nil ?_
    refine WpC.ret ?_
    try simp only [blockQ, seqQ]
    refine retD_i (by simp -implicitDefEqProofs [g6] <;> rfl) (by simp -implicitDefEqProofs [g6] <;> rfl) ?_
    simp_all <;> omega
theorem indexO1_ok (l : List Ord) (hl : l.length ≤ 1000000000) : Gives Try.prog 39 [.d (encOs l), .fn 24 []] (.d (dI (idxP (fun x : Ord => decide (x.claim < 0 ∨ x.bal < 0)) l))) := by
  obtain ⟨f, hf⟩ : ∃ f : Ord → Bool, (fun x : Ord => decide (x.claim < 0 ∨ x.bal < 0)) = f := ⟨_, rfl⟩
  have hff : ∀ x : Ord, decide (x.claim < 0 ∨ x.bal < 0) = f x := fun x => by rw [← hf]
  rw [hf]
  refine Gives.enter tabOk Try.func39 rfl (by show 2 ≤ 19; decide) ?_
  simp only [Try.f39]
  refine WpC.seq (WpC.ops tabOk (r := []) (by simp -implicitDefEqProofs <;> rfl) rfl ?_)
  refine WpC.seq ?_
  refine WpC.seq (WpC.ops tabOk (r := []) (by simp -implicitDefEqProofs <;> rfl) rfl ?_)
  refine WpC.block ?_
  refine WpC.loopK [0, 1, 7] [8] (l.length) (() : Unit) (fun k _ => [(8, .d (.int .i64 k))]) (fun k _ => []) (fun k _ => (l.take k).any f = false) (by simp -implicitDefEqProofs <;> rfl) (Gh.cut' [8, 0, 1, 7] 0 (by simp -implicitDefEqProofs) (by simp -implicitDefEqProofs) rfl (by simp) (by simp) (by simp)) (by simp) ?_
  rintro k ⟨⟩ hk hi
  simp only [List.cons_append, List.nil_append]
  refine WpC.seq (WpC.ops tabOk (r := []) (by simp -implicitDefEqProofs <;> rfl) rfl ?_)
  refine WpC.seq (WpC.condD (k < l.length) (by simp -implicitDefEqProofs <;> omega) (fun hlt => ?_) (fun hge => ?_))
  · refine WpC.skip ?_
    have hst := any_take f hlt
    obtain ⟨x, hx⟩ : ∃ x, l[k] = x := ⟨_, rfl⟩
    have hw : IntKind.i64.wrap ((k : Int) + 1) = k + 1 := wrapI (by omega) (by omega)
    have hfi := find_take f hlt hi
    rw [hi, hx] at hst
    rw [hx] at hfi
    have hck := chk1_ok x
    rw [hff] at hck
    refine WpC.seq ?_
    refine WpC.block ?_
    refine WpC.seq (WpC.ops tabOk (r := []) (by simp -implicitDefEqProofs [hlt, hx, hw] <;> rfl) rfl ?_)
    refine WpC.seq ?_
    refine WpC.region ?_
    refine WpO.run tabOk 5 (by simp -implicitDefEqProofs [hlt, hx, hw] <;> first | exact ⟨rfl, rfl⟩ | rfl) ?_
    refine WpO.data (by simp) rfl (by simp -implicitDefEqProofs [hlt, hx, hw] <;> rfl) (by simp -implicitDefEqProofs [hlt, hx, hw] <;> rfl) (by simp -implicitDefEqProofs [hlt, hx, hw] <;> rfl) call_24 (by simp) (hck) (by rfl) (by simp -implicitDefEqProofs [hlt, hx, hw] <;> rfl) ?_
    refine WpO.nil ?_
    refine WpC.condR (by simp -implicitDefEqProofs [hlt, hx, hw] <;> rfl) (by rfl) (fun c16 => ?_) (fun c16 => ?_)
    · have c16' := c16; first | simp only [dT, dF] at c16' | try simp at c16'
      refine WpC.seq (WpC.ops tabOk (r := []) (by simp -implicitDefEqProofs [hlt, hx, hw, c16] <;> rfl) rfl ?_)
      refine WpC.ret ?_
      try simp only [blockQ, seqQ]
      refine retD_i (by simp -implicitDefEqProofs [hlt, hx, hw, c16] <;> rfl) (by simp -implicitDefEqProofs [hlt, hx, hw, c16] <;> rfl) ?_
      have := hfi (by simpa using c16)
      simp [idxP, this]
    · have c16' := c16; first | simp only [dT, dF] at c16' | try simp at c16'
      refine WpC.skip ?_
      refine WpC.ops tabOk (r := []) (by simp -implicitDefEqProofs [hlt, hx, hw, c16] <;> rfl) rfl ?_
      exact ⟨hlt, (), by rw [hst]; simpa using c16, Gh.cut' [8, 0, 1, 7] 0 (by simp -implicitDefEqProofs [hlt, hx, hw, c16, c16']) (by simp) rfl (by simp) (by simp) (by simp)⟩
  · refine WpC.exit ?_
    have hkn : k = l.length := by omega
    subst hkn
    rw [List.take_of_length_le (Nat.le_refl _)] at hi
    refine WpC.seq (WpC.ops tabOk (r := []) (by simp -implicitDefEqProofs <;> rfl) rfl ?_)
    refine WpC.ret ?_
    try simp only [blockQ, seqQ]
    refine retD_i (by simp -implicitDefEqProofs <;> rfl) (by simp -implicitDefEqProofs <;> rfl) ?_
    have : l.findIdx? f = none := by rw [List.findIdx?_eq_none_iff]; simpa using hi
    simp [idxP, this]
theorem indexO2_ok (l : List Ord) (hl : l.length ≤ 1000000000) : Gives Try.prog 39 [.d (encOs l), .fn 25 []] (.d (dI (idxP (fun x : Ord => decide (1125899906842624 < x.claim ∨ 1125899906842624 < x.bal)) l))) := by
  obtain ⟨f, hf⟩ : ∃ f : Ord → Bool, (fun x : Ord => decide (1125899906842624 < x.claim ∨ 1125899906842624 < x.bal)) = f := ⟨_, rfl⟩
  have hff : ∀ x : Ord, decide (1125899906842624 < x.claim ∨ 1125899906842624 < x.bal) = f x := fun x => by rw [← hf]
  rw [hf]
  refine Gives.enter tabOk Try.func39 rfl (by show 2 ≤ 19; decide) ?_
  simp only [Try.f39]
  refine WpC.seq (WpC.ops tabOk (r := []) (by simp -implicitDefEqProofs <;> rfl) rfl ?_)
  refine WpC.seq ?_
  refine WpC.seq (WpC.ops tabOk (r := []) (by simp -implicitDefEqProofs <;> rfl) rfl ?_)
  refine WpC.block ?_
  refine WpC.loopK [0, 1, 7] [8] (l.length) (() : Unit) (fun k _ => [(8, .d (.int .i64 k))]) (fun k _ => []) (fun k _ => (l.take k).any f = false) (by simp -implicitDefEqProofs <;> rfl) (Gh.cut' [8, 0, 1, 7] 0 (by simp -implicitDefEqProofs) (by simp -implicitDefEqProofs) rfl (by simp) (by simp) (by simp)) (by simp) ?_
  rintro k ⟨⟩ hk hi
  simp only [List.cons_append, List.nil_append]
  refine WpC.seq (WpC.ops tabOk (r := []) (by simp -implicitDefEqProofs <;> rfl) rfl ?_)
  refine WpC.seq (WpC.condD (k < l.length) (by simp -implicitDefEqProofs <;> omega) (fun hlt => ?_) (fun hge => ?_))
  · refine WpC.skip ?_
    have hst := any_take f hlt
    obtain ⟨x, hx⟩ : ∃ x, l[k] = x := ⟨_, rfl⟩
    have hw : IntKind.i64.wrap ((k : Int) + 1) = k + 1 := wrapI (by omega) (by omega)
    have hfi := find_take f hlt hi
    rw [hi, hx] at hst
    rw [hx] at hfi
    have hck := chk2_ok x
    rw [hff] at hck
    refine WpC.seq ?_
    refine WpC.block ?_
    refine WpC.seq (WpC.ops tabOk (r := []) (by simp -implicitDefEqProofs [hlt, hx, hw] <;> rfl) rfl ?_)
    refine WpC.seq ?_
    refine WpC.region ?_
    refine WpO.run tabOk 5 (by simp -implicitDefEqProofs [hlt, hx, hw] <;> first | exact ⟨rfl, rfl⟩ | rfl) ?_
    refine WpO.data (by simp) rfl (by simp -implicitDefEqProofs [hlt, hx, hw] <;> rfl) (by simp -implicitDefEqProofs [hlt, hx, hw] <;> rfl) (by simp -implicitDefEqProofs [hlt, hx, hw] <;> rfl) call_25 (by simp) (hck) (by rfl) (by simp -implicitDefEqProofs [hlt, hx, hw] <;> rfl) ?_
    refine WpO.nil ?_
    refine WpC.condR (by simp -implicitDefEqProofs [hlt, hx, hw] <;> rfl) (by rfl) (fun c16 => ?_) (fun c16 => ?_)
    · have c16' := c16; first | simp only [dT, dF] at c16' | try simp at c16'
      refine WpC.seq (WpC.ops tabOk (r := []) (by simp -implicitDefEqProofs [hlt, hx, hw, c16] <;> rfl) rfl ?_)
      refine WpC.ret ?_
      try simp only [blockQ, seqQ]
      refine retD_i (by simp -implicitDefEqProofs [hlt, hx, hw, c16] <;> rfl) (by simp -implicitDefEqProofs [hlt, hx, hw, c16] <;> rfl) ?_
      have := hfi (by simpa using c16)
      simp [idxP, this]
    · have c16' := c16; first | simp only [dT, dF] at c16' | try simp at c16'
      refine WpC.skip ?_
      refine WpC.ops tabOk (r := []) (by simp -implicitDefEqProofs [hlt, hx, hw, c16] <;> rfl) rfl ?_
      exact ⟨hlt, (), by rw [hst]; simpa using c16, Gh.cut' [8, 0, 1, 7] 0 (by simp -implicitDefEqProofs [hlt, hx, hw, c16, c16']) (by simp) rfl (by simp) (by simp) (by simp)⟩
  · refine WpC.exit ?_
    have hkn : k = l.length := by omega
    subst hkn
    rw [List.take_of_length_le (Nat.le_refl _)] at hi
    refine WpC.seq (WpC.ops tabOk (r := []) (by simp -implicitDefEqProofs <;> rfl) rfl ?_)
    refine WpC.ret ?_
    try simp only [blockQ, seqQ]
    refine retD_i (by simp -implicitDefEqProofs <;> rfl) (by simp -implicitDefEqProofs <;> rfl) ?_
    have : l.findIdx? f = none := by rw [List.findIdx?_eq_none_iff]; simpa using hi
    simp [idxP, this]
theorem containsO1_ok (l : List Ord) (hl : l.length ≤ 1000000000) : Gives Try.prog 23 [.d (encOs l), .fn 24 []] (.d (.bool (l.any fun x => decide (x.claim < 0 ∨ x.bal < 0)))) := by
  refine Gives.enter tabOk Try.func23 rfl (by show 2 ≤ 9; decide) ?_
  simp only [Try.f23]
  refine WpC.seq (WpC.ops tabOk (r := []) (by simp -implicitDefEqProofs <;> rfl) rfl ?_)
  refine WpC.seq ?_
  refine WpC.region ?_
  refine WpO.run tabOk 2 (by simp -implicitDefEqProofs <;> first | exact ⟨rfl, rfl⟩ | rfl) ?_
  refine WpO.data (by simp) rfl (by simp -implicitDefEqProofs <;> rfl) (by simp -implicitDefEqProofs <;> rfl) (by simp -implicitDefEqProofs <;> rfl) call_39 (by simp) (indexO1_ok l hl) (by rfl) (by simp -implicitDefEqProofs <;> rfl) ?_
  refine WpO.run tabOk 2 (by simp -implicitDefEqProofs <;> first | exact ⟨rfl, rfl⟩ | rfl) ?_
  refine WpO.nil ?_
  refine WpC.ret ?_
  try simp only [blockQ, seqQ]
  refine retD_i (by simp -implicitDefEqProofs <;> rfl) (by simp -implicitDefEqProofs <;> rfl) ?_
  simp [← idxP_any]
theorem containsO2_ok (l : List Ord) (hl : l.length ≤ 1000000000) : Gives Try.prog 23 [.d (encOs l), .fn 25 []] (.d (.bool (l.any fun x => decide (1125899906842624 < x.claim ∨ 1125899906842624 < x.bal)))) := by
  refine Gives.enter tabOk Try.func23 rfl (by show 2 ≤ 9; decide) ?_
  simp only [Try.f23]
  refine WpC.seq (WpC.ops tabOk (r := []) (by simp -implicitDefEqProofs <;> rfl) rfl ?_)
  refine WpC.seq ?_
  refine WpC.region ?_
  refine WpO.run tabOk 2 (by simp -implicitDefEqProofs <;> first | exact ⟨rfl, rfl⟩ | rfl) ?_
  refine WpO.data (by simp) rfl (by simp -implicitDefEqProofs <;> rfl) (by simp -implicitDefEqProofs <;> rfl) (by simp -implicitDefEqProofs <;> rfl) call_39 (by simp) (indexO2_ok l hl) (by rfl) (by simp -implicitDefEqProofs <;> rfl) ?_
  refine WpO.run tabOk 2 (by simp -implicitDefEqProofs <;> first | exact ⟨rfl, rfl⟩ | rfl) ?_
  refine WpO.nil ?_
  refine WpC.ret ?_
  try simp only [blockQ, seqQ]
  refine retD_i (by simp -implicitDefEqProofs <;> rfl) (by simp -implicitDefEqProofs <;> rfl) ?_
  simp [← idxP_any]
def chkE (net prot : Int) (l : List Ord) : Int :=
  if 8 < l.length then 9 else if prot < 0 ∨ (l.any fun x => decide (x.claim < 0 ∨ x.bal < 0)) = true then 1 else
    if (1125899906842624 < net ∨ net < -1125899906842624) ∨ 1125899906842624 < prot ∨ (l.any fun x => decide (1125899906842624 < x.claim ∨ 1125899906842624 < x.bal)) = true then 3 else 0
theorem check_ok (net prot : Int) (l : List Ord) (hl : l.length ≤ 1000000000) : Gives Try.prog 16 [.d (dI net), .d (dI prot), .d (encOs l)] (.d (dI (chkE net prot l))) := by
  have h1 := containsO1_ok l hl
  have h2 := containsO2_ok l hl
  unfold chkE
  obtain ⟨b1, hb1⟩ : ∃ b, (l.any fun x => decide (x.claim < 0 ∨ x.bal < 0)) = b := ⟨_, rfl⟩
  obtain ⟨b2, hb2⟩ : ∃ b, (l.any fun x => decide (1125899906842624 < x.claim ∨ 1125899906842624 < x.bal)) = b := ⟨_, rfl⟩
  rw [hb1] at h1 ⊢
  rw [hb2] at h2 ⊢
  refine Gives.enter tabOk Try.func16 rfl (by show 3 ≤ 33; decide) ?_
  simp only [Try.f16]
  refine WpC.seq (WpC.ops tabOk (r := []) (by simp -implicitDefEqProofs <;> rfl) rfl ?_)
  refine WpC.seq ?_
  refine WpC.block ?_
  refine WpC.seq (WpC.ops tabOk (r := []) (by simp -implicitDefEqProofs <;> rfl) rfl ?_)
  refine WpC.condD ((8 : Int) < l.length) (by simp -implicitDefEqProofs) (fun d7 => ?_) (fun d7 => ?_)
  · refine WpC.seq (WpC.ops tabOk (r := []) (by simp -implicitDefEqProofs [d7] <;> rfl) rfl ?_)
    refine WpC.ret ?_
    try simp only [blockQ, seqQ]
    refine retD_i (by simp -implicitDefEqProofs [d7] <;> rfl) (by simp -implicitDefEqProofs [d7] <;> rfl) ?_
    have := d7
    rw [if_pos (by omega)]
    simp
  · refine WpC.seq ?_
    refine WpC.val 11 (.d (.bool (decide (prot < 0 ∨ b1 = true)))) ?_ ?_
    · refine WpC.region ?_
      refine WpO.run tabOk 3 (by simp -implicitDefEqProofs [d7] <;> first | exact ⟨rfl, rfl⟩ | rfl) ?_
      refine WpO.splitB 14 (by simp -implicitDefEqProofs [d7] <;> rfl) (by rfl) (fun g14 => ?_) (fun g14 => ?_)
      · have g14' := g14; first | simp only [dT, dF] at g14' | try simp at g14'
        refine WpO.run tabOk 4 (by simp -implicitDefEqProofs [d7, g14] <;> first | exact ⟨rfl, rfl⟩ | rfl) ?_
        refine WpO.nil ?_
        refine ⟨rfl, Gh.only 11 8 ?_ (by first | rfl | simp -implicitDefEqProofs [d7, g14]) (by rfl)⟩
        simp -implicitDefEqProofs [d7, g14, g14']
      · have g14' := g14; first | simp only [dT, dF] at g14' | try simp at g14'
        refine WpO.run tabOk 1 (by simp -implicitDefEqProofs [d7, g14] <;> first | exact ⟨rfl, rfl⟩ | rfl) ?_
        refine WpO.data (by simp) rfl (by simp -implicitDefEqProofs [d7, g14] <;> rfl) (by simp -implicitDefEqProofs [d7, g14] <;> rfl) (by simp -implicitDefEqProofs [d7, g14] <;> rfl) call_23 (by simp) (h1) (by rfl) (by simp -implicitDefEqProofs [d7, g14] <;> rfl) ?_
        refine WpO.run tabOk 2 (by simp -implicitDefEqProofs [d7, g14] <;> first | exact ⟨rfl, rfl⟩ | rfl) ?_
        refine WpO.nil ?_
        refine ⟨rfl, Gh.only 11 8 ?_ (by first | rfl | simp -implicitDefEqProofs [d7, g14]) (by rfl)⟩
        simp -implicitDefEqProofs [d7, g14, g14']
    refine WpC.condD (prot < 0 ∨ b1 = true) (by simp -implicitDefEqProofs [d7]) (fun d11 => ?_) (fun d11 => ?_)
    · refine WpC.seq (WpC.ops tabOk (r := []) (by simp -implicitDefEqProofs [d7, d11] <;> rfl) rfl ?_)
      refine WpC.ret ?_
      try simp only [blockQ, seqQ]
      refine retD_i (by simp -implicitDefEqProofs [d7, d11] <;> rfl) (by simp -implicitDefEqProofs [d7, d11] <;> rfl) ?_
      have := d7
      rw [if_neg (by omega), if_pos d11]
      simp
    · refine WpC.seq ?_
      refine WpC.val 18 (.d (.bool (decide ((1125899906842624 < net ∨ net < -1125899906842624) ∨ 1125899906842624 < prot ∨ b2 = true)))) ?_ ?_
      · refine WpC.region ?_
        refine WpO.run tabOk 3 (by simp -implicitDefEqProofs [d7, d11] <;> first | exact ⟨rfl, rfl⟩ | rfl) ?_
        refine WpO.splitB 21 (by simp -implicitDefEqProofs [d7, d11] <;> rfl) (by rfl) (fun g21 => ?_) (fun g21 => ?_)
        · have g21' := g21; first | simp only [dT, dF] at g21' | try simp at g21'
          refine WpO.run tabOk 12 (by simp -implicitDefEqProofs [d7, d11, g21] <;> first | exact ⟨rfl, rfl⟩ | rfl) ?_
          refine WpO.nil ?_
          refine ⟨rfl, Gh.only 18 16 ?_ (by first | rfl | simp -implicitDefEqProofs [d7, d11, g21]) (by rfl)⟩
          simp -implicitDefEqProofs [d7, d11, g21, g21']
        · have g21' := g21; first | simp only [dT, dF] at g21' | try simp at g21'
          refine WpO.run tabOk 4 (by simp -implicitDefEqProofs [d7, d11, g21] <;> first | exact ⟨rfl, rfl⟩ | rfl) ?_
          refine WpO.splitB 25 (by simp -implicitDefEqProofs [d7, d11, g21] <;> rfl) (by rfl) (fun g25 => ?_) (fun g25 => ?_)
          · have g25' := g25; first | simp only [dT, dF] at g25' | try simp at g25'
            refine WpO.run tabOk 8 (by simp -implicitDefEqProofs [d7, d11, g21, g25] <;> first | exact ⟨rfl, rfl⟩ | rfl) ?_
            refine WpO.nil ?_
            refine ⟨rfl, Gh.only 18 17 ?_ (by first | rfl | simp -implicitDefEqProofs [d7, d11, g21, g25]) (by rfl)⟩
            simp -implicitDefEqProofs [d7, d11, g21, g25, g21', g25']
          · have g25' := g25; first | simp only [dT, dF] at g25' | try simp at g25'
            refine WpO.run tabOk 4 (by simp -implicitDefEqProofs [d7, d11, g21, g25] <;> first | exact ⟨rfl, rfl⟩ | rfl) ?_
            refine WpO.splitB 29 (by simp -implicitDefEqProofs [d7, d11, g21, g25] <;> rfl) (by rfl) (fun g29 => ?_) (fun g29 => ?_)
            · have g29' := g29; first | simp only [dT, dF] at g29' | try simp at g29'
              refine WpO.run tabOk 4 (by simp -implicitDefEqProofs [d7, d11, g21, g25, g29] <;> first | exact ⟨rfl, rfl⟩ | rfl) ?_
              refine WpO.nil ?_
              refine ⟨rfl, Gh.only 18 18 ?_ (by first | rfl | simp -implicitDefEqProofs [d7, d11, g21, g25, g29]) (by rfl)⟩
              simp -implicitDefEqProofs [d7, d11, g21, g25, g29, g21', g25', g29']
            · have g29' := g29; first | simp only [dT, dF] at g29' | try simp at g29'
              refine WpO.run tabOk 1 (by simp -implicitDefEqProofs [d7, d11, g21, g25, g29] <;> first | exact ⟨rfl, rfl⟩ | rfl) ?_
              refine WpO.data (by simp) rfl (by simp -implicitDefEqProofs [d7, d11, g21, g25, g29] <;> rfl) (by simp -implicitDefEqProofs [d7, d11, g21, g25, g29] <;> rfl) (by simp -implicitDefEqProofs [d7, d11, g21, g25, g29] <;> rfl) call_23 (by simp) (h2) (by rfl) (by simp -implicitDefEqProofs [d7, d11, g21, g25, g29] <;> rfl) ?_
              refine WpO.run tabOk 2 (by simp -implicitDefEqProofs [d7, d11, g21, g25, g29] <;> first | exact ⟨rfl, rfl⟩ | rfl) ?_
              refine WpO.nil ?_
              refine ⟨rfl, Gh.only 18 18 ?_ (by first | rfl | simp -implicitDefEqProofs [d7, d11, g21, g25, g29]) (by rfl)⟩
              simp -implicitDefEqProofs [d7, d11, g21, g25, g29, g21', g25', g29']
      refine WpC.condD ((1125899906842624 < net ∨ net < -1125899906842624) ∨ 1125899906842624 < prot ∨ b2 = true) (by simp -implicitDefEqProofs [d7, d11]) (fun d18 => ?_) (fun d18 => ?_)
      · refine WpC.seq (WpC.ops tabOk (r := []) (by simp -implicitDefEqProofs [d7, d11, d18] <;> rfl) rfl ?_)
        refine WpC.ret ?_
        try simp only [blockQ, seqQ]
        refine retD_i (by simp -implicitDefEqProofs [d7, d11, d18] <;> rfl) (by simp -implicitDefEqProofs [d7, d11, d18] <;> rfl) ?_
        have := d7
        rw [if_neg (by omega), if_neg d11, if_pos d18]
        simp
      · refine WpC.skip ?_
        refine WpC.seq (WpC.ops tabOk (r := []) (by simp -implicitDefEqProofs [d7, d11, d18] <;> rfl) rfl ?_)
        refine WpC.ret ?_
        try simp only [blockQ, seqQ]
        refine retD_i (by simp -implicitDefEqProofs [d7, d11, d18] <;> rfl) (by simp -implicitDefEqProofs [d7, d11, d18] <;> rfl) ?_
        have := d7
        rw [if_neg (by omega), if_neg d11, if_neg d18]
        simp
theorem cloneO_ok (xs : List D) (hl : xs.length ≤ 1000000000) : GivesRow Try.prog 22 [.d (.list 4 xs)] 35 4 xs := by
  refine WpF.enter tabOk Try.func22 rfl (by show 1 ≤ 8; decide) ?_
  simp only [Try.f22]
  refine WpC.seq (WpC.ops tabOk (r := []) (by simp -implicitDefEqProofs <;> rfl) rfl ?_)
  refine WpC.seq ?_
  refine WpC.seq ?_
  refine WpC.region ?_
  refine WpO.run tabOk 1 (by simp <;> first | exact ⟨rfl, rfl⟩ | rfl) ?_
  refine WpO.nilEq (k := 4) (xs := xs) tabOk (by simp) rfl (by simp; rfl) rfl (by simp) fun b hb => ⟨_, by simp; rfl, WpO.nil ?_⟩
  refine WpC.condR (by simp -implicitDefEqProofs <;> rfl) (by rfl) (fun c4 => ?_) (fun c4 => ?_)
  · have c4' := c4; first | simp only [dT, dF] at c4' | try simp at c4'
    refine WpC.seq (WpC.ops tabOk (r := []) (by simp -implicitDefEqProofs [c4] <;> rfl) rfl ?_)
    have := hb c4
    subst this
    refine WpC.gh (Gh.nilArr 35 4 (t := 2) (by simp) (by simp)) ?_
    refine WpC.gh (Gh.pick [2] [0] (by simp; rfl) (env' := [(2, .sl 0 0)]) (by simp) (by simp) (by simp) (by simp; rfl) (S' := [.arr 35 4 []]) (by simp) (by simp)) (WpC.ret ?_)
    simp
  · have c4' := c4; first | simp only [dT, dF] at c4' | try simp at c4'
    have hsm : xs.length ≤ 8589934592 := by omega
    refine WpC.skip ?_
    refine WpC.seq (WpC.ops tabOk (r := []) (by simp -implicitDefEqProofs [c4, hsm] <;> rfl) rfl ?_)
    refine WpC.gh (Gh.pick [2] [1] (by simp; rfl) (env' := [(2, .sl 0 xs.length)]) (by simp) (by simp) (by simp) (by simp; rfl) (S' := [.arr 35 4 xs]) (by simp) (by simp)) (WpC.ret ?_)
    simp

def priF (l : List Ord) (i : Nat) : Int := ((l[i]?).map Ord.pri).getD 0
def wantF (l : List Ord) (i : Nat) : Int := ((l[i]?).map Ord.want).getD 0
theorem rowF_add (f : Nat → Int) (k : Nat) : rowF f (k + 1) = rowF f k ++ [dI (f k)] := by simp [rowF, List.range_succ]
theorem prs_of {l : List Ord} {h h2 : Nat → Int} {n m : Nat} (hn : l.length = n) (hm : Mv 0 n (priF l) h) (hr : Rch 0 n (priF l) h) (hk : Kept h h2 n m) : Prs (priF l) n ((List.range m).map h2) := by
  refine ⟨fun i j hi hj hij => ?_, fun i hi => ?_, fun p hp => ?_⟩
  · simp only [List.length_map, List.length_range] at hi hj
    simp only [List.getElem_map, List.getElem_range]
    exact hk.up i j hij hj
  · obtain ⟨j, _, hj, e⟩ := hr i (Nat.zero_le _) hi
    obtain ⟨q, hq, e2⟩ := hk.all j hj
    rw [← e, ← e2]
    exact List.mem_map.2 ⟨q, List.mem_range.2 hq, rfl⟩
  · obtain ⟨q, hq, rfl⟩ := List.mem_map.1 hp
    obtain ⟨j, hj, e⟩ := hk.some q (List.mem_range.1 hq)
    obtain ⟨i, _, hi, e2⟩ := hm.src j (Nat.zero_le _) hj
    exact ⟨i, hi, by rw [e, e2]⟩
set_option maxHeartbeats 4000000 in
theorem prios_ok (l : List Ord) (n : Nat) (hn : l.length = n) (hl : n ≤ 12) : WpF Try.prog 17 [.d (encOs l)] [] fun r S => ∃ h m, m ≤ n ∧ r = .sl 0 m ∧ S = [.arr 3 1 (rowF h n)] ∧ Prs (priF l) n ((List.range m).map h) := by
  have hso := sort_ok (priF l) n hl
  obtain ⟨pf, hpf⟩ : ∃ pf, priF l = pf := ⟨_, rfl⟩
  have hpi : ∀ i (h : i < l.length), pf i = l[i].pri := fun i h => by rw [← hpf]; unfold priF; rw [List.getElem?_eq_getElem h]; rfl
  rw [hpf] at hso
  have hz0 : rowF pf 0 = [] := rfl
  refine WpF.enter tabOk Try.func17 rfl (by show 1 ≤ 22; decide) ?_
  simp only [Try.f17]
  refine WpC.seq (WpC.ops tabOk (r := []) (by simp -implicitDefEqProofs [hn, hz0] <;> rfl) rfl ?_)
  refine WpC.seq (WpC.ops tabOk (r := []) (by simp -implicitDefEqProofs [hn, hz0] <;> rfl) rfl ?_)
  refine WpC.seq ?_
  refine WpC.gh (Gh.nilArr 3 1 (t := 3) (by simp) (by simp)) ?_
  refine WpC.seq (WpC.ops tabOk (r := []) (by simp -implicitDefEqProofs [hn, hz0] <;> rfl) rfl ?_)
  refine WpC.block ?_
  refine WpC.loopK [6, 7] [3, 8] (n) (() : Unit) (fun k _ => [(3, .sl 0 k), (8, .d (.int .i64 k))]) (fun k _ => [.arr 3 1 (rowF pf k)]) (fun k _ => True) (by simp -implicitDefEqProofs [hn, hz0] <;> rfl) (Gh.cut' [3, 8, 6, 7] 1 (by simp -implicitDefEqProofs [hn, hz0]) (by simp -implicitDefEqProofs [hn, hz0]) rfl (by simp) (by simp) (by simp)) (by simp) ?_
  rintro k ⟨⟩ hk hi
  simp only [List.cons_append, List.nil_append]
  refine WpC.seq (WpC.ops tabOk (r := []) (by simp -implicitDefEqProofs [hn, hz0] <;> rfl) rfl ?_)
  refine WpC.seq (WpC.condD (k < n) (by simp -implicitDefEqProofs [hn, hz0] <;> omega) (fun hlt => ?_) (fun hge => ?_))
  · refine WpC.skip ?_
    have hkl : k < l.length := by omega
    obtain ⟨x, hx⟩ : ∃ x, l[k] = x := ⟨_, rfl⟩
    have hpx := hpi k hkl
    rw [hx] at hpx
    have hra := rowF_add pf k
    rw [hpx] at hra
    have hkw : IntKind.i64.wrap ((k : Int) + 1) = k + 1 := wrapI (by omega) (by omega)
    have hks : k ≤ 8589934591 := by omega
    refine WpC.seq ?_
    refine WpC.block ?_
    refine WpC.seq (WpC.ops tabOk (r := []) (by simp -implicitDefEqProofs [hn, hz0, hlt, hkl, hx, hkw, hks] <;> rfl) rfl ?_)
    refine WpC.ops tabOk (r := []) (by simp -implicitDefEqProofs [hn, hz0, hlt, hkl, hx, hkw, hks] <;> rfl) rfl ?_
    refine WpC.ops tabOk (r := []) (by simp -implicitDefEqProofs [hn, hz0, hlt, hkl, hx, hkw, hks] <;> rfl) rfl ?_
    exact ⟨hlt, (), trivial, Gh.pick [3, 8, 6, 7] [3] (by simp -implicitDefEqProofs [hn, hz0, hlt, hkl, hx, hkw, hks, hra]; rfl) (by simp -implicitDefEqProofs [hn, hz0, hlt, hkl, hx, hkw, hks, hra]) (by simp) (by simp) (by simp; rfl) (by simp -implicitDefEqProofs [hn, hz0, hlt, hkl, hx, hkw, hks, hra]) (by simp)⟩
  · refine WpC.exit ?_
    have hkn : n = k := by omega
    subst hkn
    refine WpC.seq ?_
    refine WpC.region ?_
    refine WpO.run tabOk 1 (by simp -implicitDefEqProofs [hn, hz0] <;> first | exact ⟨rfl, rfl⟩ | rfl) ?_
    refine WpO.callP [0] (by simp) rfl (by simp -implicitDefEqProofs [hn, hz0] <;> rfl) (by simp -implicitDefEqProofs [hn, hz0] <;> rfl) call_26 (by simp) (by simp) (by simp) (by simp -implicitDefEqProofs [hn, hz0]) (by simp; rfl) (by simp -implicitDefEqProofs [hn, hz0]) ( hso) fun r S1 hr => ?_
    obtain ⟨h, rfl, rfl, m1, m2, t1⟩ := hr
    refine ⟨_, by simp -implicitDefEqProofs [hn, hz0] <;> rfl, ?_⟩
    refine WpO.nil ?_
    refine WpC.seq ?_
    have hcp := compact_ok h n hl t1
    refine WpC.region ?_
    refine WpO.run tabOk 1 (by simp -implicitDefEqProofs [hn, hz0] <;> first | exact ⟨rfl, rfl⟩ | rfl) ?_
    refine WpO.callP [0] (by simp) rfl (by simp -implicitDefEqProofs [hn, hz0] <;> rfl) (by simp -implicitDefEqProofs [hn, hz0] <;> rfl) call_27 (by simp) (by simp) (by simp) (by simp -implicitDefEqProofs [hn, hz0]) (by simp; rfl) (by simp -implicitDefEqProofs [hn, hz0]) ( hcp) fun r S1 hr => ?_
    obtain ⟨h2, m, hm, rfl, rfl, hk2⟩ := hr
    refine ⟨_, by simp -implicitDefEqProofs [hn, hz0] <;> rfl, ?_⟩
    refine WpO.run tabOk 1 (by simp -implicitDefEqProofs [hn, hz0] <;> first | exact ⟨rfl, rfl⟩ | rfl) ?_
    refine WpO.nil ?_
    refine WpC.ret ?_
    refine ⟨.inr rfl, _, by simp -implicitDefEqProofs <;> rfl, ?_, by simp⟩
    exact ⟨h2, m, hm, rfl, rfl, by rw [hpf]; exact hpf ▸ prs_of hn (hpf.symm ▸ m1) (hpf.symm ▸ m2) hk2⟩

/-- What is left to claim, of the first k. -/
def cutO (o : Ord) (p : Int) : Ord := ⟨o.cred, o.pri, o.claim, o.bal - p⟩
def ordAt (l : List Ord) (i : Nat) : Ord := (l[i]?).getD ⟨0, 0, 0, 0⟩
def intAt (l : List Int) (i : Nat) : Int := (l[i]?).getD 0
def payL (l : List Ord) (ps : List Int) (k : Nat) : List Ord := (List.range l.length).map fun i => if i < k then cutO (ordAt l i) (intAt ps i) else ordAt l i
def payB (l : List Ord) (ps : List Int) (k : Nat) : Bool := (List.range k).all fun i => decide (0 ≤ intAt ps i ∧ intAt ps i ≤ (ordAt l i).bal)
def paidB (l : List Ord) (ps : List Int) : Bool := decide (l.length = ps.length) && payB l ps l.length
theorem ordAt_at {l : List Ord} {i : Nat} (h : i < l.length) : ordAt l i = l[i] := by unfold ordAt; rw [List.getElem?_eq_getElem h]; rfl
theorem intAt_at {l : List Int} {i : Nat} (h : i < l.length) : intAt l i = l[i] := by unfold intAt; rw [List.getElem?_eq_getElem h]; rfl
@[simp] theorem payL_len (l : List Ord) (ps : List Int) (k : Nat) : (payL l ps k).length = l.length := by simp [payL]
theorem payL_zero (l : List Ord) (ps : List Int) : payL l ps 0 = l := by
  apply List.ext_getElem
  · simp
  · intro i h1 h2
    simp [payL, ordAt_at h2]
theorem payL_at (l : List Ord) (ps : List Int) (k : Nat) {i : Nat} (h : i < (payL l ps k).length) : (payL l ps k)[i] = if i < k then cutO (ordAt l i) (intAt ps i) else ordAt l i := by simp [payL]
theorem payL_set (l : List Ord) (ps : List Int) {k : Nat} (h : k < l.length) : (payL l ps k).set k (cutO (ordAt l k) (intAt ps k)) = payL l ps (k + 1) := by
  apply List.ext_getElem
  · simp
  · intro i h1 h2
    rw [List.getElem_set, payL_at, payL_at]
    by_cases e : k = i
    · subst e; rw [if_pos rfl, if_pos (by omega)]
    · rw [if_neg e]
      by_cases e2 : i < k
      · rw [if_pos e2, if_pos (by omega)]
      · rw [if_neg e2, if_neg (by omega)]
theorem payB_step (l : List Ord) (ps : List Int) (k : Nat) : payB l ps (k + 1) = (payB l ps k && decide (0 ≤ intAt ps k ∧ intAt ps k ≤ (ordAt l k).bal)) := by
  unfold payB
  rw [List.range_succ, List.all_append]; simp
theorem payB_le {l : List Ord} {ps : List Int} {k n : Nat} (h : payB l ps n = true) (hk : k ≤ n) : payB l ps k = true := by
  unfold payB at *
  rw [List.all_eq_true] at *
  intro i hi
  exact h i (List.mem_range.2 (Nat.lt_of_lt_of_le (List.mem_range.1 hi) hk))
set_option maxHeartbeats 4000000 in
theorem paid_ok (l : List Ord) (ps : List Int) (hl : l.length ≤ 1000000) (hp : ps.length ≤ 1000000) (hb : ∀ o ∈ l, in64 o.bal) : Gives Try.prog 15 [.d (encOs l), .d (.list 1 (ps.map dI))] (.tup [.d (encOs (if paidB l ps = true then payL l ps l.length else [])), .d (.bool (paidB l ps))]) := by
  have hcl := cloneO_ok (l.map Ord.enc) (by simp; omega)
  have hz := payL_zero l ps
  refine Gives.enter tabOk Try.func15 rfl (by show 2 ≤ 45; decide) ?_
  simp only [Try.f15]
  refine WpC.seq (WpC.ops tabOk (r := []) (by simp -implicitDefEqProofs [hz] <;> rfl) rfl ?_)
  refine WpC.seq ?_
  refine WpC.seq (WpC.ops tabOk (r := []) (by simp -implicitDefEqProofs [hz] <;> rfl) rfl ?_)
  refine WpC.condD (¬ (l.length : Int) = ps.length) (by simp -implicitDefEqProofs [hz]) (fun d13 => ?_) (fun d13 => ?_)
  · refine WpC.seq (WpC.ops tabOk (r := []) (by simp -implicitDefEqProofs [hz, d13] <;> rfl) rfl ?_)
    refine WpC.ret ?_
    try simp only [blockQ, seqQ]
    refine retD_i (by simp -implicitDefEqProofs [hz, d13] <;> rfl) (by simp -implicitDefEqProofs [hz, d13] <;> rfl) ?_
    have e : paidB l ps = false := by unfold paidB; rw [decide_eq_false (by omega)]; rfl
    simp [e]
  · have hle : l.length = ps.length := by omega
    obtain ⟨n, hn⟩ : ∃ n, l.length = n := ⟨_, rfl⟩
    have hn2 : ps.length = n := by omega
    refine WpC.skip ?_
    refine WpC.seq ?_
    refine WpC.region ?_
    refine WpO.run tabOk 1 (by simp -implicitDefEqProofs [hz, d13, hn, hn2] <;> first | exact ⟨rfl, rfl⟩ | rfl) ?_
    refine WpO.callP [] (by simp) rfl (by simp -implicitDefEqProofs [hz, d13, hn, hn2] <;> rfl) (by simp -implicitDefEqProofs [hz, d13, hn, hn2] <;> rfl) call_22 (by simp) (by simp) (by simp) (by simp -implicitDefEqProofs [hz, d13, hn, hn2]) (by simp; rfl) (by simp -implicitDefEqProofs [hz, d13, hn, hn2]) ( hcl) fun r S1 hr => ?_
    obtain ⟨rfl, rfl⟩ := hr
    refine ⟨_, by simp -implicitDefEqProofs [hz, d13, hn, hn2] <;> rfl, ?_⟩
    refine WpO.run tabOk 1 (by simp -implicitDefEqProofs [hz, d13, hn, hn2] <;> first | exact ⟨rfl, rfl⟩ | rfl) ?_
    refine WpO.nil ?_
    refine WpC.seq ?_
    refine WpC.seq (WpC.ops tabOk (r := []) (by simp -implicitDefEqProofs [hz, d13, hn, hn2] <;> rfl) rfl ?_)
    refine WpC.block ?_
    refine WpC.loopK [0, 6, 16, 17] [18] (n) (() : Unit) (fun k _ => [(18, .d (.int .i64 k))]) (fun k _ => [.arr 35 4 ((payL l ps k).map Ord.enc)]) (fun k _ => payB l ps k = true) (by simp -implicitDefEqProofs [hz, d13, hn, hn2] <;> rfl) (Gh.cut' [18, 0, 6, 16, 17] 1 (by simp -implicitDefEqProofs [hz, d13, hn, hn2]) (by simp -implicitDefEqProofs [hz, d13, hn, hn2]) rfl (by simp) (by simp) (by simp)) (rfl) ?_
    rintro k ⟨⟩ hk hi
    simp only [List.cons_append, List.nil_append]
    refine WpC.seq (WpC.ops tabOk (r := []) (by simp -implicitDefEqProofs [hz, d13, hn, hn2] <;> rfl) rfl ?_)
    refine WpC.seq (WpC.condD (k < n) (by simp -implicitDefEqProofs [hz, d13, hn, hn2] <;> omega) (fun hlt => ?_) (fun hge => ?_))
    · refine WpC.skip ?_
      have hkl : k < l.length := by omega
      have hkp : k < ps.length := by omega
      obtain ⟨x, hx⟩ : ∃ x, l[k] = x := ⟨_, rfl⟩
      obtain ⟨p, hpk⟩ : ∃ p, ps[k] = p := ⟨_, rfl⟩
      have hxb := hb x (hx ▸ List.getElem_mem hkl)
      unfold in64 at hxb
      have hst := payB_step l ps k
      have hse := payL_set l ps hkl
      rw [hi, ordAt_at hkl, intAt_at hkp, hx, hpk] at hst
      rw [ordAt_at hkl, intAt_at hkp, hx, hpk] at hse
      obtain ⟨Y, hY⟩ : ∃ Y, payL l ps k = Y := ⟨_, rfl⟩
      have hYl : Y.length = n := by rw [← hY]; simp; omega
      have hYk : ∀ h : k < Y.length, Y[k] = x := fun h => by subst hY; rw [payL_at, if_neg (by omega), ordAt_at hkl, hx]
      rw [hY] at hse
      have hkw : IntKind.i64.wrap ((k : Int) + 1) = k + 1 := wrapI (by omega) (by omega)
      refine WpC.seq ?_
      refine WpC.block ?_
      refine WpC.seq (WpC.ops tabOk (r := []) (by simp -implicitDefEqProofs [hz, d13, hn, hn2, hlt, hkl, hkp, hx, hpk, hY, hYl, hYk, hkw] <;> rfl) rfl ?_)
      refine WpC.seq ?_
      refine WpC.seq ?_
      refine WpC.val 33 (.d (.bool (decide (p < 0 ∨ x.bal < p)))) ?_ ?_
      · refine WpC.region ?_
        refine WpO.run tabOk 3 (by simp -implicitDefEqProofs [hz, d13, hn, hn2, hlt, hkl, hkp, hx, hpk, hY, hYl, hYk, hkw] <;> first | exact ⟨rfl, rfl⟩ | rfl) ?_
        refine WpO.splitB 25 (by simp -implicitDefEqProofs [hz, d13, hn, hn2, hlt, hkl, hkp, hx, hpk, hY, hYl, hYk, hkw] <;> rfl) (by rfl) (fun g25 => ?_) (fun g25 => ?_)
        · have g25' := g25; first | simp only [dT, dF] at g25' | try simp at g25'
          refine WpO.run tabOk 8 (by simp -implicitDefEqProofs [hz, d13, hn, hn2, hlt, hkl, hkp, hx, hpk, hY, hYl, hYk, hkw, g25] <;> first | exact ⟨rfl, rfl⟩ | rfl) ?_
          refine WpO.nil ?_
          refine ⟨rfl, Gh.only 33 12 ?_ (by first | rfl | simp -implicitDefEqProofs [hz, d13, hn, hn2, hlt, hkl, hkp, hx, hpk, hY, hYl, hYk, hkw, g25]) (by rfl)⟩
          simp -implicitDefEqProofs [hz, d13, hn, hn2, hlt, hkl, hkp, hx, hpk, hY, hYl, hYk, hkw, g25, g25']
        · have g25' := g25; first | simp only [dT, dF] at g25' | try simp at g25'
          refine WpO.run tabOk 8 (by simp -implicitDefEqProofs [hz, d13, hn, hn2, hlt, hkl, hkp, hx, hpk, hY, hYl, hYk, hkw, g25] <;> first | exact ⟨rfl, rfl⟩ | rfl) ?_
          refine WpO.nil ?_
          refine ⟨rfl, Gh.only 33 12 ?_ (by first | rfl | simp -implicitDefEqProofs [hz, d13, hn, hn2, hlt, hkl, hkp, hx, hpk, hY, hYl, hYk, hkw, g25]) (by rfl)⟩
          simp -implicitDefEqProofs [hz, d13, hn, hn2, hlt, hkl, hkp, hx, hpk, hY, hYl, hYk, hkw, g25, g25']
      refine WpC.condD (p < 0 ∨ x.bal < p) (by simp -implicitDefEqProofs [hz, d13, hn, hn2, hlt, hkl, hkp, hx, hpk, hY, hYl, hYk, hkw]) (fun d33 => ?_) (fun d33 => ?_)
      · have hno : paidB l ps = false := by
          cases hq : paidB l ps with
          | false => rfl
          | true =>
            unfold paidB at hq
            rw [Bool.and_eq_true] at hq
            have h3 := payB_le hq.2 (show k + 1 ≤ l.length from hkl)
            rw [hst, decide_eq_false (show ¬ (0 ≤ p ∧ p ≤ x.bal) by omega)] at h3
            cases h3
        refine WpC.seq (WpC.ops tabOk (r := []) (by simp -implicitDefEqProofs [hz, d13, hn, hn2, hlt, hkl, hkp, hx, hpk, hY, hYl, hYk, hkw, d33] <;> rfl) rfl ?_)
        refine WpC.ret ?_
        try simp only [blockQ, seqQ]
        refine retD_i (by simp -implicitDefEqProofs [hz, d13, hn, hn2, hlt, hkl, hkp, hx, hpk, hY, hYl, hYk, hkw, d33] <;> rfl) (by simp -implicitDefEqProofs [hz, d13, hn, hn2, hlt, hkl, hkp, hx, hpk, hY, hYl, hYk, hkw, d33] <;> rfl) ?_
        simp [hno]
      · have hpw : IntKind.i64.wrap (x.bal - p) = x.bal - p := wrapI (by omega) (by omega)
        refine WpC.skip ?_
        refine WpC.ops tabOk (r := []) (by simp -implicitDefEqProofs [hz, d13, hn, hn2, hlt, hkl, hkp, hx, hpk, hY, hYl, hYk, hkw, d33, hpw] <;> rfl) rfl ?_
        refine WpC.ops tabOk (r := []) (by simp -implicitDefEqProofs [hz, d13, hn, hn2, hlt, hkl, hkp, hx, hpk, hY, hYl, hYk, hkw, d33, hpw] <;> rfl) rfl ?_
        exact ⟨hlt, (), by rw [hst, decide_eq_true (show 0 ≤ p ∧ p ≤ x.bal by omega)]; rfl, Gh.cut' [18, 0, 6, 16, 17] 1 (by simp -implicitDefEqProofs [hz, d13, hn, hn2, hlt, hkl, hkp, hx, hpk, hY, hYl, hYk, hkw, d33, hpw, ← hse, cutO]) (by simp -implicitDefEqProofs [hz, d13, hn, hn2, hlt, hkl, hkp, hx, hpk, hY, hYl, hYk, hkw, d33, hpw, ← hse, cutO]) rfl (by simp) (by simp) (by simp)⟩
    · refine WpC.exit ?_
      have hkn : k = n := by omega
      subst hkn
      refine WpC.seq (WpC.ops tabOk (r := []) (by simp -implicitDefEqProofs [hz, d13, hn, hn2] <;> rfl) rfl ?_)
      refine WpC.ret ?_
      try simp only [blockQ, seqQ]
      refine retD_i (by simp -implicitDefEqProofs [hz, d13, hn, hn2] <;> rfl) (by simp -implicitDefEqProofs [hz, d13, hn, hn2] <;> rfl) ?_
      have e : paidB l ps = true := by unfold paidB; rw [decide_eq_true hle, hn, hi]; rfl
      simp [e, hn]
end Go.Proofs.Ytaobnhenjldjeaa.Pay
/- garnish.Serve. No statement of the seed is proved here. -/
namespace Go.Proofs.Ytaobnhenjldjeaa.Pay
open Go Go.RowKit
set_option linter.unusedVariables false
set_option linter.unusedSimpArgs false
set_option linter.unusedSectionVars false

theorem chk_good {net prot : Int} {l : List Ord} (h : chkE net prot l = 0) : GoodN (at0 (net - prot)) (priF l) (wantF l) l.length ∧ (∀ o ∈ l, 0 ≤ o.claim ∧ o.claim ≤ 1125899906842624 ∧ 0 ≤ o.bal ∧ o.bal ≤ 1125899906842624) ∧ (-1125899906842624 ≤ net ∧ net ≤ 1125899906842624) ∧ 0 ≤ prot ∧ prot ≤ 1125899906842624 := by
  unfold chkE at h
  split at h
  · simp at h
  rename_i h8
  split at h
  · simp at h
  rename_i hneg
  split at h
  · simp at h
  rename_i hbig
  have hall : ∀ o ∈ l, 0 ≤ o.claim ∧ o.claim ≤ 1125899906842624 ∧ 0 ≤ o.bal ∧ o.bal ≤ 1125899906842624 := fun o ho => by
    have h1 : (l.any fun x => decide (x.claim < 0 ∨ x.bal < 0)) = false := by
      cases q : (l.any fun x => decide (x.claim < 0 ∨ x.bal < 0)) with
      | false => rfl
      | true => exact absurd (.inr q) hneg
    have h2 : (l.any fun x => decide (1125899906842624 < x.claim ∨ 1125899906842624 < x.bal)) = false := by
      cases q : (l.any fun x => decide (1125899906842624 < x.claim ∨ 1125899906842624 < x.bal)) with
      | false => rfl
      | true => exact absurd (.inr (.inr q)) hbig
    rw [List.any_eq_false] at h1 h2
    have := h1 o ho
    have := h2 o ho
    simp at *
    omega
  have hw : ∀ i, i < l.length → 0 ≤ wantF l i ∧ wantF l i ≤ 1125899906842624 := fun i hi => by
    unfold wantF
    rw [List.getElem?_eq_getElem hi]
    have := hall _ (List.getElem_mem hi)
    show 0 ≤ min _ _ ∧ min _ _ ≤ _
    omega
  exact ⟨⟨at0_pos _, by omega, fun i hi => (hw i hi).1, fun i hi => (hw i hi).2⟩, hall, by omega, by omega⟩
theorem upd_same (f : Nat → Int) (i : Nat) (x : Int) : upd f i x i = x := if_pos rfl
def dN (i : Nat) : D := dI (i : Int)
/-- The row while a group is served. -/
def oG (f o : Nat → Int) (ats : List Nat) (k : Nat) : Nat → Int := fun i => if i ∈ ats.take k then f i else o i
theorem oG_zero (f o : Nat → Int) (ats : List Nat) : oG f o ats 0 = o := by funext i; simp [oG]
theorem takeN_in {l : List Nat} {k : Nat} (hk : k < l.length) {x : Nat} : x ∈ l.take (k + 1) ↔ x ∈ l.take k ∨ x = l[k] := by
  rw [List.take_add_one, List.getElem?_eq_getElem hk]; simp only [Option.toList_some, List.mem_append, List.mem_singleton]
theorem oG_step (f o : Nat → Int) {ats : List Nat} {k : Nat} (hk : k < ats.length) : upd (oG f o ats k) ats[k] (f ats[k]) = oG f o ats (k + 1) := by
  funext i
  unfold upd oG
  have h1 := takeN_in hk (x := i)
  by_cases e : i = ats[k]
  · rw [if_pos e, if_pos (h1.2 (.inr e)), e]
  · rw [if_neg e]
    by_cases e2 : i ∈ ats.take k
    · rw [if_pos e2, if_pos (h1.2 (.inl e2))]
    · rw [if_neg e2, if_neg (fun q => (h1.1 q).elim e2 e)]
def oF (A : Int) (P W : Nat → Int) (n : Nat) (ps : List Int) (k : Nat) : Nat → Int := fun i => if P i ∈ ps.take k then outN A P W n i else 0
theorem oF_zero (A : Int) (P W : Nat → Int) (n : Nat) (ps : List Int) : oF A P W n ps 0 = fun _ => 0 := by funext i; simp [oF]
theorem oF_next {A : Int} {P W : Nat → Int} {n : Nat} {ps : List Int} {q : Nat} (hq : q < ps.length) {ats : List Nat} (ha : atN P n ps[q] = ats) : rowF (oG (outN A P W n) (oF A P W n ps q) ats ats.length) n = rowF (oF A P W n ps (q + 1)) n := rowF_ext fun i hi => by
  unfold oG oF
  rw [List.take_of_length_le (Nat.le_refl _), ← ha]
  have h1 := take_in hq (x := P i)
  have h2 := atN_mem (P := P) (n := n) (p := ps[q]) (i := i)
  by_cases e : P i = ps[q]
  · rw [if_pos (h2.2 ⟨hi, e⟩), if_pos (h1.2 (.inr e))]
  · rw [if_neg (fun z => e (h2.1 z).2)]
    by_cases e2 : P i ∈ ps.take q
    · rw [if_pos e2, if_pos (h1.2 (.inl e2))]
    · rw [if_neg e2, if_neg (fun z => (h1.1 z).elim e2 e)]
theorem oF_all {A : Int} {P W : Nat → Int} {n : Nat} {ps : List Int} (h : Prs P n ps) : rowF (oF A P W n ps ps.length) n = rowF (outN A P W n) n := rowF_ext fun i hi => by
  unfold oF
  rw [List.take_of_length_le (Nat.le_refl _), if_pos (h.all i hi)]
theorem max0 (x : Int) : max x 0 = at0 x := by unfold at0; split <;> omega
/-- What Serve gives. -/
def srvL (net prot : Int) (l : List Ord) : List D := if chkE net prot l = 0 then rowF (outN (at0 (net - prot)) (priF l) (wantF l) l.length) l.length else []

structure SrvI (A : Int) (P W : Nat → Int) (n : Nat) (h : Nat → Int) (m : Nat) (T : Nat → Int) (O : Nat → Nat → Int) : Prop where
  T0 : T 0 = A
  O0 : O 0 = fun _ => 0
  th : ∀ q, q < m → thN A P W n (h q) = T q
  Tb : ∀ q, 0 ≤ T q ∧ T q ≤ A
  Tn : ∀ q, q < m → T q - (pN A P W n (h q)).sum = T (q + 1)
  On : ∀ q, q < m → ∀ ats, atN P n (h q) = ats → rowF (oG (outN A P W n) (O q) ats ats.length) n = rowF (O (q + 1)) n
  Om : rowF (O m) n = rowF (outN A P W n) n
theorem srv_facts {A : Int} {P W : Nat → Int} {n m : Nat} {h : Nat → Int} (g : GoodN A P W n) (hps : Prs P n ((List.range m).map h)) : ∃ T O, SrvI A P W n h m T O := by
  obtain ⟨ps, hp⟩ : ∃ ps, (List.range m).map h = ps := ⟨_, rfl⟩
  have hl : ps.length = m := by rw [← hp]; simp
  have hat : ∀ q (hq : q < ps.length), ps[q] = h q := fun q hq => by simp [← hp]
  rw [hp] at hps
  refine ⟨fun k => at0 (A - ahS P W n ps k), oF A P W n ps, ?_, oF_zero _ _ _ _ _, fun q hq => ?_, fun q => ⟨at0_pos _, ?_⟩, fun q hq => ?_, fun q hq ats ha => ?_, ?_⟩
  · have e2 : ahS P W n ps 0 = 0 := (sumF_congr fun i _ => by simp).trans (sumF_none n)
    show at0 (A - ahS P W n ps 0) = A
    rw [e2]
    have := g.A0
    unfold at0; split <;> omega
  · rw [← hat q (by omega)]; exact (th_next g hps (by omega)).1
  · have : 0 ≤ ahS P W n ps q := sumF_pos fun i hi => by have := g.w0 i hi; split <;> omega
    have := g.A0
    show at0 (A - ahS P W n ps q) ≤ A
    unfold at0; split <;> omega
  · rw [← hat q (by omega)]; exact (th_next g hps (by omega)).2.2.symm
  · rw [← hat q (by omega)] at ha
    exact oF_next (by omega) ha
  · rw [← hl]; exact oF_all hps
/-- A group, as it is gathered. -/
structure GrpI (P W : Nat → Int) (p : Int) (n : Nat) (a w : Nat → List D) (c : Nat → Nat) (s : Nat → Int) : Prop where
  a0 : a 0 = []
  w0 : w 0 = []
  c0 : c 0 = 0
  s0 : s 0 = 0
  ay : ∀ k, P k = p → a (k + 1) = a k ++ [dI (k : Int)]
  wy : ∀ k, P k = p → w (k + 1) = w k ++ [dI (W k)]
  cy : ∀ k, P k = p → c (k + 1) = c k + 1
  sy : ∀ k, P k = p → s (k + 1) = s k + W k
  an : ∀ k, ¬ P k = p → a (k + 1) = a k
  wn : ∀ k, ¬ P k = p → w (k + 1) = w k
  cn : ∀ k, ¬ P k = p → c (k + 1) = c k
  sn : ∀ k, ¬ P k = p → s (k + 1) = s k
  al : ∀ k, (a k).length = c k
  wl : ∀ k, (w k).length = c k
  cl : ∀ k, c k ≤ k
  sb : ∀ k, k ≤ n → 0 ≤ s k ∧ s k ≤ 9007199254740992
  ae : a n = (atN P n p).map dN
  we : w n = (wN P W n p).map dI
  ce : c n = (atN P n p).length
  se : s n = (wN P W n p).sum
theorem grp {A : Int} {P W : Nat → Int} {n : Nat} (g : GoodN A P W n) (p : Int) : ∃ a w c s, GrpI P W p n a w c s := by
  have h1 : ∀ k, P k = p → atN P (k + 1) p = atN P k p ++ [k] := fun k h => by rw [atN_step, if_pos h]
  have h2 : ∀ k, P k = p → wN P W (k + 1) p = wN P W k p ++ [W k] := fun k h => by rw [wN_step, if_pos h]
  have h3 : ∀ k, ¬ P k = p → atN P (k + 1) p = atN P k p := fun k h => by rw [atN_step, if_neg h]
  have h4 : ∀ k, ¬ P k = p → wN P W (k + 1) p = wN P W k p := fun k h => by rw [wN_step, if_neg h]
  refine ⟨fun k => (atN P k p).map dN, fun k => (wN P W k p).map dI, fun k => (atN P k p).length, fun k => (wN P W k p).sum, rfl, rfl, rfl, rfl, fun k h => ?_, fun k h => ?_, fun k h => ?_, fun k h => ?_, fun k h => ?_, fun k h => ?_, fun k h => ?_, fun k h => ?_, fun k => by simp, fun k => by simp [wN_len], fun k => atN_len p, fun k hk => ?_, rfl, rfl, rfl, rfl⟩
  · simp only [h1 k h, List.map_append]; rfl
  · simp only [h2 k h, List.map_append]; rfl
  · simp only [h1 k h, List.length_append]; rfl
  · simp only [h2 k h, List.sum_append]; simp
  · simp only [h3 k h]
  · simp only [h4 k h]
  · simp only [h3 k h]
  · simp only [h4 k h]
  · have g' : GoodN A P W k := ⟨g.A0, by have := g.n8; omega, fun i hi => g.w0 i (by omega), fun i hi => g.wb i (by omega)⟩
    exact (wN_ok g' p).2.2
/-- A group's parts, as they are paid. -/
structure PrtI (A : Int) (P W : Nat → Int) (n : Nat) (p : Int) (o : Nat → Int) (ats : List Nat) (pp : List Int) (O2 : Nat → Nat → Int) (S2 : Nat → Int) : Prop where
  len : pp.length = ats.length
  lt : ∀ k (h : k < ats.length), ats[k] < n
  O0 : O2 0 = o
  S0 : S2 0 = 0
  On : ∀ k (h : k < ats.length) (h' : k < pp.length), upd (O2 k) ats[k] pp[k] = O2 (k + 1)
  Sn : ∀ k (h' : k < pp.length), S2 (k + 1) = S2 k + pp[k]
  Sb : ∀ k, 0 ≤ S2 k ∧ S2 k ≤ pp.sum
  pb : ∀ k (h' : k < pp.length), 0 ≤ pp[k]
  Oe : O2 ats.length = oG (outN A P W n) o ats ats.length
  Se : S2 ats.length = pp.sum
theorem prt {A : Int} {P W : Nat → Int} {n : Nat} (g : GoodN A P W n) (p : Int) (o : Nat → Int) : ∃ O2 S2, PrtI A P W n p o (atN P n p) (pN A P W n p) O2 S2 := by
  obtain ⟨h1, h2, h3⟩ := pN_ok g p
  have h0 : ∀ x ∈ pN A P W n p, 0 ≤ x := fun x hx => by
    obtain ⟨j, hj, rfl⟩ := List.getElem_of_mem hx
    exact (h2 j hj (by rw [wN_len, ← h1]; exact hj)).1
  refine ⟨oG (outN A P W n) o (atN P n p), fun k => ((pN A P W n p).take k).sum, h1, fun k h => (atN_mem.1 (List.getElem_mem h)).1, oG_zero _ _ _, rfl, fun k h h' => ?_, fun k h' => sum_take h', fun k => ⟨?_, sum_take_le h0 k⟩, fun k h' => h0 _ (List.getElem_mem h'), rfl, ?_⟩
  · have : (pN A P W n p)[k] = outN A P W n (atN P n p)[k] := by simp only [← outs g p, List.getElem_map]
    rw [this]; exact oG_step _ _ h
  · exact sum_nonneg fun x hx => h0 x (List.mem_of_mem_take hx)
  · show ((pN A P W n p).take _).sum = _
    rw [← h1, List.take_of_length_le (Nat.le_refl _)]
set_option maxHeartbeats 40000000 in
theorem serve_ok (net prot : Int) (l : List Ord) (hl : l.length ≤ 1000000) : Gives Try.prog 11 [.d (dI net), .d (dI prot), .d (encOs l)] (.tup [.d (.list 1 (srvL net prot l)), .d (dI (chkE net prot l))]) := by
  have hck := check_ok net prot l (by omega)
  unfold srvL
  have hgd := chk_good (net := net) (prot := prot) (l := l)
  have hmx := max0 (net - prot)
  obtain ⟨A, hA⟩ : ∃ A, at0 (net - prot) = A := ⟨_, rfl⟩
  obtain ⟨e, he⟩ : ∃ e, chkE net prot l = e := ⟨_, rfl⟩
  obtain ⟨P, hP⟩ : ∃ P, priF l = P := ⟨_, rfl⟩
  obtain ⟨W, hW⟩ : ∃ W, wantF l = W := ⟨_, rfl⟩
  obtain ⟨n, hn⟩ : ∃ n, l.length = n := ⟨_, rfl⟩
  have hPi : ∀ i (h : i < l.length), P i = l[i].pri := fun i h => by rw [← hP]; unfold priF; rw [List.getElem?_eq_getElem h]; rfl
  have hWi : ∀ i (h : i < l.length), W i = l[i].want := fun i h => by rw [← hW]; unfold wantF; rw [List.getElem?_eq_getElem h]; rfl
  have hpr : n ≤ 12 → _ := fun h => prios_ok l n hn h
  rw [hA] at hmx hgd ⊢
  rw [he] at hgd hck ⊢
  rw [hP] at hgd hpr ⊢
  rw [hW] at hgd ⊢
  rw [hn] at hgd ⊢
  refine Gives.enter tabOk Try.func11 rfl (by show 3 ≤ 100; decide) ?_
  simp only [Try.f11]
  refine WpC.seq (WpC.ops tabOk (r := []) (by simp -implicitDefEqProofs [dN, hn] <;> rfl) rfl ?_)
  refine WpC.seq ?_
  refine WpC.seq ?_
  refine WpC.region ?_
  refine WpO.run tabOk 3 (by simp -implicitDefEqProofs [dN, hn] <;> first | exact ⟨rfl, rfl⟩ | rfl) ?_
  refine WpO.data (by simp) rfl (by simp -implicitDefEqProofs [dN, hn] <;> rfl) (by simp -implicitDefEqProofs [dN, hn] <;> rfl) (by simp -implicitDefEqProofs [dN, hn] <;> rfl) call_16 (by simp) (hck) (by rfl) (by simp -implicitDefEqProofs [dN, hn] <;> rfl) ?_
  refine WpO.run tabOk 1 (by simp -implicitDefEqProofs [dN, hn] <;> first | exact ⟨rfl, rfl⟩ | rfl) ?_
  refine WpO.nil ?_
  refine WpC.seq (WpC.ops tabOk (r := []) (by simp -implicitDefEqProofs [dN, hn] <;> rfl) rfl ?_)
  refine WpC.condD (¬ e = 0) (by simp -implicitDefEqProofs [dN, hn]) (fun d26 => ?_) (fun d26 => ?_)
  · refine WpC.seq (WpC.ops tabOk (r := []) (by simp -implicitDefEqProofs [dN, hn, d26] <;> rfl) rfl ?_)
    refine WpC.ret ?_
    try simp only [blockQ, seqQ]
    refine retD_i (by simp -implicitDefEqProofs [dN, hn, d26] <;> rfl) (by simp -implicitDefEqProofs [dN, hn, d26] <;> rfl) ?_
    simp [d26]
  · have he0 : e = 0 := Classical.not_not.1 d26
    obtain ⟨g, hall, hnet, hprot⟩ := hgd he0
    have hA2 : A ≤ 2251799813685248 := by rw [← hA]; unfold at0; split <;> omega
    have hA0 := g.A0
    have hn8 := g.n8
    have w1 : IntKind.i64.wrap (net - prot) = net - prot := wrapI (by omega) (by omega)
    have w2 : n ≤ 8589934592 := by omega
    have w3 : (n : Int) ≤ 8589934592 := by omega
    have hz : List.replicate n (D.int .i64 0) = rowF (fun _ => 0) n := by
      rw [pk_zero (fun _ => 0) n]; exact rowF_ext fun i hi => by simp [pk]
    have hpr := (hpr (by omega)).mono (Q' := fun r S => ∃ h m T O, m ≤ n ∧ r = .sl 0 m ∧ S = [.arr 3 1 (rowF h n)] ∧ SrvI A P W n h m T O) fun r S ⟨h, m, q1, q2, q3, q4⟩ => by
      obtain ⟨T, O, q5⟩ := srv_facts g q4
      exact ⟨h, m, T, O, q1, q2, q3, q5⟩
    refine WpC.skip ?_
    refine WpC.seq (WpC.ops tabOk (r := []) (by simp -implicitDefEqProofs [dN, hn, d26, w1, w2, w3, hz, hmx] <;> rfl) rfl ?_)
    refine WpC.seq (WpC.ops tabOk (r := []) (by simp -implicitDefEqProofs [dN, hn, d26, w1, w2, w3, hz, hmx] <;> rfl) rfl ?_)
    refine WpC.seq ?_
    refine WpC.seq ?_
    refine WpC.region ?_
    refine WpO.run tabOk 1 (by simp -implicitDefEqProofs [dN, hn, d26, w1, w2, w3, hz, hmx] <;> first | exact ⟨rfl, rfl⟩ | rfl) ?_
    refine WpO.callP [] (by simp) rfl (by simp -implicitDefEqProofs [dN, hn, d26, w1, w2, w3, hz, hmx] <;> rfl) (by simp -implicitDefEqProofs [dN, hn, d26, w1, w2, w3, hz, hmx] <;> rfl) call_17 (by simp) (by simp) (by simp) (by simp -implicitDefEqProofs [dN, hn, d26, w1, w2, w3, hz, hmx]) (by simp; rfl) (by simp -implicitDefEqProofs [dN, hn, d26, w1, w2, w3, hz, hmx]) ( hpr) fun r S1 hr => ?_
    obtain ⟨h, m, T, O, hm, rfl, rfl, hI⟩ := hr
    refine ⟨_, by simp -implicitDefEqProofs [dN, hn, d26, w1, w2, w3, hz, hmx] <;> rfl, ?_⟩
    refine WpO.run tabOk 2 (by simp -implicitDefEqProofs [dN, hn, d26, w1, w2, w3, hz, hmx] <;> first | exact ⟨rfl, rfl⟩ | rfl) ?_
    refine WpO.nil ?_
    refine WpC.block ?_
    refine WpC.loopK [2, 10, 36, 37] [9, 38] (m) (() : Unit) (fun k _ => [(9, .d (dI (T k))), (38, .d (.int .i64 k))]) (fun k _ => [.arr 3 1 (rowF (O k) n), .arr 3 1 (rowF h n)]) (fun k _ => True) (by simp -implicitDefEqProofs [dN, hn, d26, w1, w2, w3, hz, hmx] <;> rfl) (Gh.cut' [9, 38, 2, 10, 36, 37] 2 (by simp -implicitDefEqProofs [hI.T0, hmx, w1]) (by simp -implicitDefEqProofs [hI.O0, hz]) rfl (by simp) (by simp) (by simp)) (trivial) ?_
    rintro k ⟨⟩ hk hi
    simp only [List.cons_append, List.nil_append]
    refine WpC.seq (WpC.ops tabOk (r := []) (by simp -implicitDefEqProofs [dN, hn, d26, w1, w2, w3, hz, hmx] <;> rfl) rfl ?_)
    refine WpC.seq (WpC.condD (k < m) (by simp -implicitDefEqProofs [dN, hn, d26, w1, w2, w3, hz, hmx] <;> omega) (fun hlt => ?_) (fun hge => ?_))
    · refine WpC.skip ?_
      obtain ⟨q, rfl⟩ : ∃ q, q = k := ⟨k, rfl⟩
      have hq : q < m := hlt
      have hqn : q < n := by omega
      obtain ⟨p, hp⟩ : ∃ p, h q = p := ⟨_, rfl⟩
      have hqw : IntKind.i64.wrap ((q : Int) + 1) = q + 1 := wrapI (by omega) (by omega)
      obtain ⟨a, w, c, sm, hG⟩ := grp g p
      have hth := hI.th q hq
      have hTb := hI.Tb q
      have hTn := hI.Tn q hq
      have hOn := hI.On q hq
      rw [hp] at hth hTn hOn
      obtain ⟨t, ht⟩ : ∃ t, T q = t := ⟨_, rfl⟩
      obtain ⟨o, ho⟩ : ∃ o, O q = o := ⟨_, rfl⟩
      rw [ht] at hth hTb hTn
      rw [ho] at hOn
      refine WpC.seq ?_
      refine WpC.block ?_
      refine WpC.seq (WpC.ops tabOk (r := []) (by simp -implicitDefEqProofs [dN, hn, d26, w1, w2, w3, hz, hmx, hlt, hq, hqn, hm, hp, hqw, ht, ho] <;> rfl) rfl ?_)
      refine WpC.seq (WpC.ops tabOk (r := []) (by simp -implicitDefEqProofs [dN, hn, d26, w1, w2, w3, hz, hmx, hlt, hq, hqn, hm, hp, hqw, ht, ho] <;> rfl) rfl ?_)
      refine WpC.seq (WpC.ops tabOk (r := []) (by simp -implicitDefEqProofs [dN, hn, d26, w1, w2, w3, hz, hmx, hlt, hq, hqn, hm, hp, hqw, ht, ho] <;> rfl) rfl ?_)
      refine WpC.seq ?_
      refine WpC.gh (Gh.nilArr 3 1 (t := 13) (by simp) (by simp)) ?_
      refine WpC.gh (Gh.nilArr 3 1 (t := 14) (by simp) (by simp)) ?_
      refine WpC.seq (WpC.ops tabOk (r := []) (by simp -implicitDefEqProofs [dN, hn, d26, w1, w2, w3, hz, hmx, hlt, hq, hqn, hm, hp, hqw, ht, ho] <;> rfl) rfl ?_)
      refine WpC.block ?_
      refine WpC.loopK [2, 9, 10, 12, 36, 37, 38, 42, 43] [13, 14, 15, 44] (n) (() : Unit) (fun k _ => [(13, .sl 2 (c k)), (14, .sl 3 (c k)), (15, .d (dI (sm k))), (44, .d (.int .i64 k))]) (fun k _ => [.arr 3 1 (rowF o n), .arr 3 1 (rowF h n), .arr 3 1 (a k), .arr 3 1 (w k)]) (fun k _ => True) (by simp -implicitDefEqProofs [dN, hn, d26, w1, w2, w3, hz, hmx, hlt, hq, hqn, hm, hp, hqw, ht, ho] <;> rfl) (Gh.cut' [13, 14, 15, 44, 2, 9, 10, 12, 36, 37, 38, 42, 43] 4 (by simp -implicitDefEqProofs [hG.c0, hG.s0, hn, ht]) (by simp -implicitDefEqProofs [hG.a0, hG.w0, ho]) rfl (by simp) (by simp) (by simp)) (by simp) ?_
      rintro k ⟨⟩ hk hi
      simp only [List.cons_append, List.nil_append]
      refine WpC.seq (WpC.ops tabOk (r := []) (by simp -implicitDefEqProofs [dN, hn, d26, w1, w2, w3, hz, hmx, hlt, hq, hqn, hm, hp, hqw, ht, ho] <;> rfl) rfl ?_)
      refine WpC.seq (WpC.condD (k < n) (by simp -implicitDefEqProofs [dN, hn, d26, w1, w2, w3, hz, hmx, hlt, hq, hqn, hm, hp, hqw, ht, ho] <;> omega) (fun hlt => ?_) (fun hge => ?_))
      · refine WpC.skip ?_
        have hkl : k < l.length := by omega
        obtain ⟨x, hx⟩ : ∃ x, l[k] = x := ⟨_, rfl⟩
        have hPk := hPi k hkl
        have hWk := hWi k hkl
        rw [hx] at hPk hWk
        have hkw : IntKind.i64.wrap ((k : Int) + 1) = k + 1 := wrapI (by omega) (by omega)
        have hal := hG.al k
        have hwl := hG.wl k
        have hcl := hG.cl k
        have hcs : c k ≤ 8589934591 := by omega
        have hwt := want_ok x
        have hsb := hG.sb (k + 1) (by omega)
        obtain ⟨a1, ha1⟩ : ∃ z, a k = z := ⟨_, rfl⟩
        obtain ⟨w1', hw1⟩ : ∃ z, w k = z := ⟨_, rfl⟩
        obtain ⟨c1, hc1⟩ : ∃ z, c k = z := ⟨_, rfl⟩
        obtain ⟨s1, hs1⟩ : ∃ z, sm k = z := ⟨_, rfl⟩
        rw [ha1, hc1] at hal
        rw [hw1, hc1] at hwl
        rw [hc1] at hcs
        refine WpC.seq ?_
        refine WpC.block ?_
        refine WpC.seq (WpC.ops tabOk (r := []) (by simp -implicitDefEqProofs [dN, hn, d26, w1, w2, w3, hz, hmx, hlt, hq, hqn, hm, hp, hqw, ht, ho, hlt, hkl, hx, hkw, hal, hwl, hcs, ha1, hw1, hc1, hs1] <;> rfl) rfl ?_)
        refine WpC.seq (WpC.ops tabOk (r := []) (by simp -implicitDefEqProofs [dN, hn, d26, w1, w2, w3, hz, hmx, hlt, hq, hqn, hm, hp, hqw, ht, ho, hlt, hkl, hx, hkw, hal, hwl, hcs, ha1, hw1, hc1, hs1] <;> rfl) rfl ?_)
        refine WpC.condD (x.pri = p) (by simp -implicitDefEqProofs [dN, hn, d26, w1, w2, w3, hz, hmx, hlt, hq, hqn, hm, hp, hqw, ht, ho, hlt, hkl, hx, hkw, hal, hwl, hcs, ha1, hw1, hc1, hs1]) (fun d52 => ?_) (fun d52 => ?_)
        · have hpp : P k = p := hPk.trans d52
          have hga := hG.ay k hpp
          have hgw := hG.wy k hpp
          have hgc := hG.cy k hpp
          have hgs := hG.sy k hpp
          rw [hgs] at hsb
          rw [ha1] at hga
          rw [hw1, hWk] at hgw
          rw [hc1] at hgc
          rw [hs1, hWk] at hgs hsb
          have hsw : IntKind.i64.wrap (s1 + x.want) = s1 + x.want := wrapI (by omega) (by omega)
          refine WpC.drawn tabOk (by kernel_rfl) 4 (by simp) ?_
          refine DrO.run (fz := []) 3 (by simp -implicitDefEqProofs [dN, hn, d26, w1, w2, w3, hz, hmx, hlt, hq, hqn, hm, hp, hqw, ht, ho, hlt, hkl, hx, hkw, hal, hwl, hcs, ha1, hw1, hc1, hs1, d52, hsw] <;> first | exact ⟨rfl, rfl, rfl, rfl⟩ | rfl) ?_
          refine DrO.run (fz := []) 3 (by simp -implicitDefEqProofs [dN, hn, d26, w1, w2, w3, hz, hmx, hlt, hq, hqn, hm, hp, hqw, ht, ho, hlt, hkl, hx, hkw, hal, hwl, hcs, ha1, hw1, hc1, hs1, d52, hsw] <;> first | exact ⟨rfl, rfl, rfl, rfl⟩ | rfl) ?_
          refine DrO.data (by simp) rfl (by simp -implicitDefEqProofs [dN, hn, d26, w1, w2, w3, hz, hmx, hlt, hq, hqn, hm, hp, hqw, ht, ho, hlt, hkl, hx, hkw, hal, hwl, hcs, ha1, hw1, hc1, hs1, d52, hsw] <;> rfl) (by simp -implicitDefEqProofs [dN, hn, d26, w1, w2, w3, hz, hmx, hlt, hq, hqn, hm, hp, hqw, ht, ho, hlt, hkl, hx, hkw, hal, hwl, hcs, ha1, hw1, hc1, hs1, d52, hsw] <;> rfl) (by simp -implicitDefEqProofs [dN, hn, d26, w1, w2, w3, hz, hmx, hlt, hq, hqn, hm, hp, hqw, ht, ho, hlt, hkl, hx, hkw, hal, hwl, hcs, ha1, hw1, hc1, hs1, d52, hsw] <;> rfl) call_18 (hwt) (by rfl) (by simp -implicitDefEqProofs [dN, hn, d26, w1, w2, w3, hz, hmx, hlt, hq, hqn, hm, hp, hqw, ht, ho, hlt, hkl, hx, hkw, hal, hwl, hcs, ha1, hw1, hc1, hs1, d52, hsw] <;> rfl) ?_
          refine DrO.run (fz := []) 3 (by simp -implicitDefEqProofs [dN, hn, d26, w1, w2, w3, hz, hmx, hlt, hq, hqn, hm, hp, hqw, ht, ho, hlt, hkl, hx, hkw, hal, hwl, hcs, ha1, hw1, hc1, hs1, d52, hsw] <;> first | exact ⟨rfl, rfl, rfl, rfl⟩ | rfl) ?_
          refine DrO.run (fz := []) 1 (by simp -implicitDefEqProofs [dN, hn, d26, w1, w2, w3, hz, hmx, hlt, hq, hqn, hm, hp, hqw, ht, ho, hlt, hkl, hx, hkw, hal, hwl, hcs, ha1, hw1, hc1, hs1, d52, hsw] <;> first | exact ⟨rfl, rfl, rfl, rfl⟩ | rfl) ?_
          refine DrO.data (by simp) rfl (by simp -implicitDefEqProofs [dN, hn, d26, w1, w2, w3, hz, hmx, hlt, hq, hqn, hm, hp, hqw, ht, ho, hlt, hkl, hx, hkw, hal, hwl, hcs, ha1, hw1, hc1, hs1, d52, hsw] <;> rfl) (by simp -implicitDefEqProofs [dN, hn, d26, w1, w2, w3, hz, hmx, hlt, hq, hqn, hm, hp, hqw, ht, ho, hlt, hkl, hx, hkw, hal, hwl, hcs, ha1, hw1, hc1, hs1, d52, hsw] <;> rfl) (by simp -implicitDefEqProofs [dN, hn, d26, w1, w2, w3, hz, hmx, hlt, hq, hqn, hm, hp, hqw, ht, ho, hlt, hkl, hx, hkw, hal, hwl, hcs, ha1, hw1, hc1, hs1, d52, hsw] <;> rfl) call_18 (hwt) (by rfl) (by simp -implicitDefEqProofs [dN, hn, d26, w1, w2, w3, hz, hmx, hlt, hq, hqn, hm, hp, hqw, ht, ho, hlt, hkl, hx, hkw, hal, hwl, hcs, ha1, hw1, hc1, hs1, d52, hsw] <;> rfl) ?_
          refine DrO.run (fz := []) 3 (by simp -implicitDefEqProofs [dN, hn, d26, w1, w2, w3, hz, hmx, hlt, hq, hqn, hm, hp, hqw, ht, ho, hlt, hkl, hx, hkw, hal, hwl, hcs, ha1, hw1, hc1, hs1, d52, hsw] <;> first | exact ⟨rfl, rfl, rfl, rfl⟩ | rfl) ?_
          refine DrO.run (fz := []) 1 (by simp -implicitDefEqProofs [dN, hn, d26, w1, w2, w3, hz, hmx, hlt, hq, hqn, hm, hp, hqw, ht, ho, hlt, hkl, hx, hkw, hal, hwl, hcs, ha1, hw1, hc1, hs1, d52, hsw] <;> first | exact ⟨rfl, rfl, rfl, rfl⟩ | rfl) ?_
          refine DrO.nil ⟨by kernel_rfl, ?_⟩
          refine WpC.ops tabOk (r := []) (by simp -implicitDefEqProofs [dN, hn, d26, w1, w2, w3, hz, hmx, hlt, hq, hqn, hm, hp, hqw, ht, ho, hlt, hkl, hx, hkw, hal, hwl, hcs, ha1, hw1, hc1, hs1, d52, hsw] <;> rfl) rfl ?_
          exact ⟨hlt, (), trivial, Gh.pick [13, 14, 15, 44, 2, 9, 10, 12, 36, 37, 38, 42, 43] [0, 1, 6, 8] (by simp -implicitDefEqProofs [dN, hn, d26, w1, w2, w3, hz, hmx, hlt, hq, hqn, hm, hp, hqw, ht, ho, hlt, hkl, hx, hkw, hal, hwl, hcs, ha1, hw1, hc1, hs1, d52, hsw, hga, hgw, hgc, hgs]; rfl) (by simp -implicitDefEqProofs [dN, hn, d26, w1, w2, w3, hz, hmx, hlt, hq, hqn, hm, hp, hqw, ht, ho, hlt, hkl, hx, hkw, hal, hwl, hcs, ha1, hw1, hc1, hs1, d52, hsw, hga, hgw, hgc, hgs]) (by simp) (by simp) (by simp; rfl) (by simp -implicitDefEqProofs [dN, hn, d26, w1, w2, w3, hz, hmx, hlt, hq, hqn, hm, hp, hqw, ht, ho, hlt, hkl, hx, hkw, hal, hwl, hcs, ha1, hw1, hc1, hs1, d52, hsw, hga, hgw, hgc, hgs]) (by simp)⟩
        · have hpp : ¬ P k = p := fun z => d52 (hPk.symm.trans z)
          have hga := hG.an k hpp
          have hgw := hG.wn k hpp
          have hgc := hG.cn k hpp
          have hgs := hG.sn k hpp
          rw [ha1] at hga
          rw [hw1] at hgw
          rw [hc1] at hgc
          rw [hs1] at hgs
          refine WpC.skip ?_
          refine WpC.ops tabOk (r := []) (by simp -implicitDefEqProofs [dN, hn, d26, w1, w2, w3, hz, hmx, hlt, hq, hqn, hm, hp, hqw, ht, ho, hlt, hkl, hx, hkw, hal, hwl, hcs, ha1, hw1, hc1, hs1, d52] <;> rfl) rfl ?_
          exact ⟨hlt, (), trivial, Gh.cut' [13, 14, 15, 44, 2, 9, 10, 12, 36, 37, 38, 42, 43] 4 (by simp -implicitDefEqProofs [dN, hn, d26, w1, w2, w3, hz, hmx, hlt, hq, hqn, hm, hp, hqw, ht, ho, hlt, hkl, hx, hkw, hal, hwl, hcs, ha1, hw1, hc1, hs1, d52, hga, hgw, hgc, hgs]) (by simp -implicitDefEqProofs [dN, hn, d26, w1, w2, w3, hz, hmx, hlt, hq, hqn, hm, hp, hqw, ht, ho, hlt, hkl, hx, hkw, hal, hwl, hcs, ha1, hw1, hc1, hs1, d52, hga, hgw, hgc, hgs]) rfl (by simp) (by simp) (by simp)⟩
      · refine WpC.exit ?_
        have hkn : n = k := by omega
        subst hkn
        refine WpC.seq (WpC.ops tabOk (r := []) (by simp -implicitDefEqProofs [dN, hn, d26, w1, w2, w3, hz, hmx, hlt, hq, hqn, hm, hp, hqw, ht, ho] <;> rfl) rfl ?_)
        refine WpC.seq ?_
        have hae := hG.ae
        have hwe := hG.we
        have hce := hG.ce
        have hse := hG.se
        obtain ⟨O2, S2, hR⟩ := prt g p o
        have hwok := wN_ok g p
        have hpn : pN A P W n p = if t < (wN P W n p).sum then spS t (wN P W n p) else wN P W n p := by unfold pN; rw [hth]
        have hsE : t < (wN P W n p).sum → spE t (wN P W n p) = 0 := fun z => hth ▸ pN_spE g (hth.symm ▸ z)
        have hps := (pN_ok g p).2.2
        rw [hth] at hps
        have hOe := hOn _ rfl
        obtain ⟨ats, hats⟩ : ∃ z, atN P n p = z := ⟨_, rfl⟩
        obtain ⟨ws, hws⟩ : ∃ z, wN P W n p = z := ⟨_, rfl⟩
        obtain ⟨pp, hpp⟩ : ∃ z, pN A P W n p = z := ⟨_, rfl⟩
        rw [hats] at hae hce hR hOe
        rw [hws] at hwe hse hpn hsE hps hwok
        rw [hpp] at hR hpn hTn hps
        have hal := hG.al n
        have hwl := hG.wl n
        rw [hce] at hal hwl
        have hwl2 : ws.length = ats.length := by have := hwl; rw [hwe] at this; simpa using this
        rw [hae, hwe, hce, hse]
        have hat8 : ats.length ≤ 8 := by rw [← hats]; exact Nat.le_trans (atN_len p) hn8
        refine WpC.gh (Gh.frz [2, 3]) ?_
        refine WpC.gh (Gh.view (t := 18) (x := .sl 3 ats.length) (y := .d (.list 1 (ws.map dI))) (by simp) (by simp -implicitDefEqProofs [hwl2])) ?_
        refine WpC.gh (Gh.view (t := 14) (x := .sl 3 ats.length) (y := .d (.list 1 (ws.map dI))) (by simp) (by simp -implicitDefEqProofs [hwl2])) ?_
        refine WpC.gh (Gh.view (t := 13) (x := .sl 2 ats.length) (y := .d (.list 1 (ats.map dN))) (by simp) (by simp -implicitDefEqProofs)) ?_
        have hat64 : (ats.length : Int) ≤ 8 := by omega
        refine WpC.seq (WpC.ops tabOk (r := []) (by simp -implicitDefEqProofs [dN, hn, d26, w1, w2, w3, hz, hmx, hlt, hq, hqn, hm, hp, hqw, ht, ho, hwl2] <;> rfl) rfl ?_)
        refine WpC.condD (t < ws.sum) (by simp -implicitDefEqProofs [dN, hn, d26, w1, w2, w3, hz, hmx, hlt, hq, hqn, hm, hp, hqw, ht, ho, hwl2]) (fun d70 => ?_) (fun d70 => ?_)
        · have hpp2 : pp = spS t ws := by rw [hpn, if_pos d70]
          have hsp := splitL_ok t ws (by unfold in64; omega) (fun x hx => by have := hwok.2.1 x hx; unfold in64; omega) (by omega)
          rw [hsE d70, ← hpp2] at hsp
          rw [if_pos d70] at hps
          refine WpC.region ?_
          refine WpO.run tabOk 2 (by simp -implicitDefEqProofs [dN, hn, d26, w1, w2, w3, hz, hmx, hlt, hq, hqn, hm, hp, hqw, ht, ho, hwl2, d70] <;> first | exact ⟨rfl, rfl⟩ | rfl) ?_
          refine WpO.data (by simp) rfl (by simp -implicitDefEqProofs [dN, hn, d26, w1, w2, w3, hz, hmx, hlt, hq, hqn, hm, hp, hqw, ht, ho, hwl2, d70] <;> rfl) (by simp -implicitDefEqProofs [dN, hn, d26, w1, w2, w3, hz, hmx, hlt, hq, hqn, hm, hp, hqw, ht, ho, hwl2, d70] <;> rfl) (by simp -implicitDefEqProofs [dN, hn, d26, w1, w2, w3, hz, hmx, hlt, hq, hqn, hm, hp, hqw, ht, ho, hwl2, d70] <;> rfl) call_19 (by simp) (hsp) (by rfl) (by simp -implicitDefEqProofs [dN, hn, d26, w1, w2, w3, hz, hmx, hlt, hq, hqn, hm, hp, hqw, ht, ho, hwl2, d70] <;> rfl) ?_
          refine WpO.run tabOk 4 (by simp -implicitDefEqProofs [dN, hn, d26, w1, w2, w3, hz, hmx, hlt, hq, hqn, hm, hp, hqw, ht, ho, hwl2, d70] <;> first | exact ⟨rfl, rfl⟩ | rfl) ?_
          refine WpO.nil ?_
          refine WpC.seq (WpC.ops tabOk (r := []) (by simp -implicitDefEqProofs [dN, hn, d26, w1, w2, w3, hz, hmx, hlt, hq, hqn, hm, hp, hqw, ht, ho, hwl2, d70] <;> rfl) rfl ?_)
          refine WpC.block ?_
          refine WpC.loopK [2, 10, 18, 36, 37, 38, 77, 78] [9, 79] (ats.length) (() : Unit) (fun k _ => [(9, .d (dI (t - S2 k))), (79, .d (.int .i64 k))]) (fun k _ => [.arr 3 1 (rowF (O2 k) n), .arr 3 1 (rowF h n)]) (fun k _ => True) (by simp -implicitDefEqProofs [dN, hn, d26, w1, w2, w3, hz, hmx, hlt, hq, hqn, hm, hp, hqw, ht, ho, hwl2, d70] <;> rfl) (Gh.cut' [9, 79, 2, 10, 18, 36, 37, 38, 77, 78] 2 (by simp -implicitDefEqProofs [hR.S0]) (by simp -implicitDefEqProofs [hR.O0]) rfl (by simp) (by simp) (by simp)) (by simp) ?_
          rintro k ⟨⟩ hk hi
          simp only [List.cons_append, List.nil_append]
          refine WpC.seq (WpC.ops tabOk (r := []) (by simp -implicitDefEqProofs [dN, hn, d26, w1, w2, w3, hz, hmx, hlt, hq, hqn, hm, hp, hqw, ht, ho, hwl2, d70] <;> rfl) rfl ?_)
          refine WpC.seq (WpC.condD (k < ats.length) (by simp -implicitDefEqProofs [dN, hn, d26, w1, w2, w3, hz, hmx, hlt, hq, hqn, hm, hp, hqw, ht, ho, hwl2, d70] <;> omega) (fun hlt => ?_) (fun hge => ?_))
          · refine WpC.skip ?_
            have hkp : k < pp.length := by rw [hR.len]; exact hlt
            obtain ⟨x, hx⟩ : ∃ x, pp[k] = x := ⟨_, rfl⟩
            obtain ⟨y, hy⟩ : ∃ y, ats[k] = y := ⟨_, rfl⟩
            have hyn := hR.lt k hlt
            have hON := hR.On k hlt hkp
            have hSN := hR.Sn k hkp
            have hSb := hR.Sb k
            have hSb2 := hR.Sb (k + 1)
            have hxb := hR.pb k hkp
            rw [hx, hy] at hON
            rw [hx] at hSN hxb
            rw [hy] at hyn
            rw [hSN] at hSb2
            have hsw : IntKind.i64.wrap (t - S2 k - x) = t - S2 (k + 1) := by rw [hSN, wrapI (by omega) (by omega)]; omega
            have hkw : IntKind.i64.wrap ((k : Int) + 1) = k + 1 := wrapI (by omega) (by omega)
            refine WpC.seq ?_
            refine WpC.block ?_
            refine WpC.seq (WpC.ops tabOk (r := []) (by simp -implicitDefEqProofs [dN, hn, d26, w1, w2, w3, hz, hmx, hlt, hq, hqn, hm, hp, hqw, ht, ho, hwl2, d70, hlt, hkp, hx, hy, hyn, hsw, hkw] <;> rfl) rfl ?_)
            refine WpC.seq (WpC.ops tabOk (r := []) (by simp -implicitDefEqProofs [dN, hn, d26, w1, w2, w3, hz, hmx, hlt, hq, hqn, hm, hp, hqw, ht, ho, hwl2, d70, hlt, hkp, hx, hy, hyn, hsw, hkw] <;> rfl) rfl ?_)
            refine WpC.ops tabOk (r := []) (by simp -implicitDefEqProofs [dN, hn, d26, w1, w2, w3, hz, hmx, hlt, hq, hqn, hm, hp, hqw, ht, ho, hwl2, d70, hlt, hkp, hx, hy, hyn, hsw, hkw] <;> rfl) rfl ?_
            refine WpC.ops tabOk (r := []) (by simp -implicitDefEqProofs [dN, hn, d26, w1, w2, w3, hz, hmx, hlt, hq, hqn, hm, hp, hqw, ht, ho, hwl2, d70, hlt, hkp, hx, hy, hyn, hsw, hkw] <;> rfl) rfl ?_
            exact ⟨hlt, (), trivial, Gh.cut' [9, 79, 2, 10, 18, 36, 37, 38, 77, 78] 2 (by simp -implicitDefEqProofs [dN, hn, d26, w1, w2, w3, hz, hmx, hlt, hq, hqn, hm, hp, hqw, ht, ho, hwl2, d70, hlt, hkp, hx, hy, hyn, hsw, hkw, hON, dN]) (by simp -implicitDefEqProofs [dN, hn, d26, w1, w2, w3, hz, hmx, hlt, hq, hqn, hm, hp, hqw, ht, ho, hwl2, d70, hlt, hkp, hx, hy, hyn, hsw, hkw, hON, dN]) rfl (by simp) (by simp) (by simp)⟩
          · refine WpC.exit ?_
            have hkn : k = ats.length := by omega
            subst hkn
            have hOE2 : rowF (O2 ats.length) n = rowF (O (q + 1)) n := by rw [hR.Oe]; exact hOe
            have hSE2 : t - S2 ats.length = T (q + 1) := by rw [hR.Se]; exact hTn
            refine WpC.ops tabOk (r := []) (by simp -implicitDefEqProofs [dN, hn, d26, w1, w2, w3, hz, hmx, hlt, hq, hqn, hm, hp, hqw, ht, ho, hwl2, d70] <;> rfl) rfl ?_
            exact ⟨hlt, (), trivial, Gh.cut' [9, 38, 2, 10, 36, 37] 2 (by simp -implicitDefEqProofs [dN, hn, d26, w1, w2, w3, hz, hmx, hlt, hq, hqn, hm, hp, hqw, ht, ho, hwl2, d70, hOE2, hSE2]) (by simp -implicitDefEqProofs [dN, hn, d26, w1, w2, w3, hz, hmx, hlt, hq, hqn, hm, hp, hqw, ht, ho, hwl2, d70, hOE2, hSE2]) rfl (by simp) (by simp) (by simp)⟩
        · have hpp2 : pp = ws := by rw [hpn, if_neg d70]
          rw [if_neg d70] at hps
          subst hpp2
          refine WpC.skip ?_
          refine WpC.seq (WpC.ops tabOk (r := []) (by simp -implicitDefEqProofs [dN, hn, d26, w1, w2, w3, hz, hmx, hlt, hq, hqn, hm, hp, hqw, ht, ho, hwl2, d70] <;> rfl) rfl ?_)
          refine WpC.block ?_
          refine WpC.loopK [2, 10, 18, 36, 37, 38, 77, 78] [9, 79] (ats.length) (() : Unit) (fun k _ => [(9, .d (dI (t - S2 k))), (79, .d (.int .i64 k))]) (fun k _ => [.arr 3 1 (rowF (O2 k) n), .arr 3 1 (rowF h n)]) (fun k _ => True) (by simp -implicitDefEqProofs [dN, hn, d26, w1, w2, w3, hz, hmx, hlt, hq, hqn, hm, hp, hqw, ht, ho, hwl2, d70] <;> rfl) (Gh.cut' [9, 79, 2, 10, 18, 36, 37, 38, 77, 78] 2 (by simp -implicitDefEqProofs [hR.S0]) (by simp -implicitDefEqProofs [hR.O0]) rfl (by simp) (by simp) (by simp)) (by simp) ?_
          rintro k ⟨⟩ hk hi
          simp only [List.cons_append, List.nil_append]
          refine WpC.seq (WpC.ops tabOk (r := []) (by simp -implicitDefEqProofs [dN, hn, d26, w1, w2, w3, hz, hmx, hlt, hq, hqn, hm, hp, hqw, ht, ho, hwl2, d70] <;> rfl) rfl ?_)
          refine WpC.seq (WpC.condD (k < ats.length) (by simp -implicitDefEqProofs [dN, hn, d26, w1, w2, w3, hz, hmx, hlt, hq, hqn, hm, hp, hqw, ht, ho, hwl2, d70] <;> omega) (fun hlt => ?_) (fun hge => ?_))
          · refine WpC.skip ?_
            have hkp : k < pp.length := by rw [hR.len]; exact hlt
            obtain ⟨x, hx⟩ : ∃ x, pp[k] = x := ⟨_, rfl⟩
            obtain ⟨y, hy⟩ : ∃ y, ats[k] = y := ⟨_, rfl⟩
            have hyn := hR.lt k hlt
            have hON := hR.On k hlt hkp
            have hSN := hR.Sn k hkp
            have hSb := hR.Sb k
            have hSb2 := hR.Sb (k + 1)
            have hxb := hR.pb k hkp
            rw [hx, hy] at hON
            rw [hx] at hSN hxb
            rw [hy] at hyn
            rw [hSN] at hSb2
            have hsw : IntKind.i64.wrap (t - S2 k - x) = t - S2 (k + 1) := by rw [hSN, wrapI (by omega) (by omega)]; omega
            have hkw : IntKind.i64.wrap ((k : Int) + 1) = k + 1 := wrapI (by omega) (by omega)
            refine WpC.seq ?_
            refine WpC.block ?_
            refine WpC.seq (WpC.ops tabOk (r := []) (by simp -implicitDefEqProofs [dN, hn, d26, w1, w2, w3, hz, hmx, hlt, hq, hqn, hm, hp, hqw, ht, ho, hwl2, d70, hlt, hkp, hx, hy, hyn, hsw, hkw] <;> rfl) rfl ?_)
            refine WpC.seq (WpC.ops tabOk (r := []) (by simp -implicitDefEqProofs [dN, hn, d26, w1, w2, w3, hz, hmx, hlt, hq, hqn, hm, hp, hqw, ht, ho, hwl2, d70, hlt, hkp, hx, hy, hyn, hsw, hkw] <;> rfl) rfl ?_)
            refine WpC.ops tabOk (r := []) (by simp -implicitDefEqProofs [dN, hn, d26, w1, w2, w3, hz, hmx, hlt, hq, hqn, hm, hp, hqw, ht, ho, hwl2, d70, hlt, hkp, hx, hy, hyn, hsw, hkw] <;> rfl) rfl ?_
            refine WpC.ops tabOk (r := []) (by simp -implicitDefEqProofs [dN, hn, d26, w1, w2, w3, hz, hmx, hlt, hq, hqn, hm, hp, hqw, ht, ho, hwl2, d70, hlt, hkp, hx, hy, hyn, hsw, hkw] <;> rfl) rfl ?_
            exact ⟨hlt, (), trivial, Gh.cut' [9, 79, 2, 10, 18, 36, 37, 38, 77, 78] 2 (by simp -implicitDefEqProofs [dN, hn, d26, w1, w2, w3, hz, hmx, hlt, hq, hqn, hm, hp, hqw, ht, ho, hwl2, d70, hlt, hkp, hx, hy, hyn, hsw, hkw, hON, dN]) (by simp -implicitDefEqProofs [dN, hn, d26, w1, w2, w3, hz, hmx, hlt, hq, hqn, hm, hp, hqw, ht, ho, hwl2, d70, hlt, hkp, hx, hy, hyn, hsw, hkw, hON, dN]) rfl (by simp) (by simp) (by simp)⟩
          · refine WpC.exit ?_
            have hkn : k = ats.length := by omega
            subst hkn
            have hOE2 : rowF (O2 ats.length) n = rowF (O (q + 1)) n := by rw [hR.Oe]; exact hOe
            have hSE2 : t - S2 ats.length = T (q + 1) := by rw [hR.Se]; exact hTn
            refine WpC.ops tabOk (r := []) (by simp -implicitDefEqProofs [dN, hn, d26, w1, w2, w3, hz, hmx, hlt, hq, hqn, hm, hp, hqw, ht, ho, hwl2, d70] <;> rfl) rfl ?_
            exact ⟨hlt, (), trivial, Gh.cut' [9, 38, 2, 10, 36, 37] 2 (by simp -implicitDefEqProofs [dN, hn, d26, w1, w2, w3, hz, hmx, hlt, hq, hqn, hm, hp, hqw, ht, ho, hwl2, d70, hOE2, hSE2]) (by simp -implicitDefEqProofs [dN, hn, d26, w1, w2, w3, hz, hmx, hlt, hq, hqn, hm, hp, hqw, ht, ho, hwl2, d70, hOE2, hSE2]) rfl (by simp) (by simp) (by simp)⟩
    · refine WpC.exit ?_
      have hkm : m = k := by omega
      subst hkm
      have hOm := hI.Om
      refine WpC.seq (WpC.ops tabOk (r := []) (by simp -implicitDefEqProofs [dN, hn, d26, w1, w2, w3, hz, hmx] <;> rfl) rfl ?_)
      refine WpC.ret ?_
      try simp only [blockQ, seqQ]
      refine retD_i (by simp -implicitDefEqProofs [dN, hn, d26, w1, w2, w3, hz, hmx] <;> rfl) (by simp -implicitDefEqProofs [dN, hn, d26, w1, w2, w3, hz, hmx] <;> rfl) ?_
      rw [he0]
      simp [hOm]
end Go.Proofs.Ytaobnhenjldjeaa.Pay
/- The arguments of laws that are numbers, and rows of them. No statement of the seed is proved here. -/
namespace Go.Proofs.Ytaobnhenjldjeaa.Pay
open Go Go.RowKit
set_option linter.unusedVariables false
set_option linter.unusedSimpArgs false
set_option linter.unusedSectionVars false

theorem has_ints {g t u b1 b2 : Nat} {k : IntKind} {z : List D} {ds : List D} (h : HasT tab (g + 2) t ds) (ht : tab t = some ⟨.slice u, b1, b2, z⟩) {c1 c2 : Nat} {z2 : List D} (hu : tab u = some ⟨.int k, c1, c2, z2⟩) (hag : TI.ag ⟨.int k, c1, c2, z2⟩ = false := by rfl) :
    ∃ l : List Int, (∀ n ∈ l, k.min ≤ n ∧ n ≤ k.max) ∧ l.length ≤ maxLen ∧ ds = [.list c1 (l.map (.int k))] := by
  unfold HasT at h
  rw [ht] at h
  simp only [hu] at h
  obtain ⟨xs, rfl, hl, hx⟩ := h
  have key : ∀ {xs : List D}, (∀ x ∈ xs, ∃ n : Int, (k.min ≤ n ∧ n ≤ k.max) ∧ x = .int k n) → ∃ l : List Int, xs = l.map (.int k) ∧ ∀ n ∈ l, k.min ≤ n ∧ n ≤ k.max := by
    intro xs
    induction xs with
    | nil => intro _; exact ⟨[], rfl, by simp⟩
    | cons x xs ih =>
      intro h
      obtain ⟨n, h1, rfl⟩ := h x (by simp)
      obtain ⟨l, rfl, h2⟩ := ih fun y hy => h y (by simp [hy])
      exact ⟨n :: l, rfl, by simpa using ⟨h1, h2⟩⟩
  obtain ⟨l, rfl, h2⟩ := key fun x hx' => by
    obtain ⟨ys, h1, rfl⟩ := hx x hx'
    unfold HasT at h1
    rw [hu] at h1
    obtain ⟨n, rfl, h3, h4⟩ := h1
    refine ⟨n, ⟨h3, h4⟩, ?_⟩
    simp [elemD, hag]
  exact ⟨l, h2, by simpa using hl, rfl⟩
theorem has_num {g t : Nat} {k : IntKind} {ds : List D} {a b : Nat} {z : List D} (h : HasT tab (g + 1) t ds) (ht : tab t = some ⟨.int k, a, b, z⟩) : ∃ n, ds = [.int k n] ∧ k.min ≤ n ∧ n ≤ k.max := by
  unfold HasT at h
  rw [ht] at h
  exact h
theorem i64_in {n : Int} (h : IntKind.i64.min ≤ n ∧ n ≤ IntKind.i64.max) : in64 n := h
end Go.Proofs.Ytaobnhenjldjeaa.Pay
/- That garnish's laws are awake; the arguments of its laws. No statement of the seed is proved here. -/
namespace Go.Proofs.Ytaobnhenjldjeaa.Pay
open Go Go.RowKit
set_option linter.unusedVariables false
set_option linter.unusedSimpArgs false
set_option linter.unusedSectionVars false

def outI (net prot : Int) (l : List Ord) : List Int := if chkE net prot l = 0 then (List.range l.length).map (outN (at0 (net - prot)) (priF l) (wantF l) l.length) else []
theorem srvL_map (net prot : Int) (l : List Ord) : srvL net prot l = (outI net prot l).map dI := by
  unfold srvL outI
  split
  · exact rowF_map _ _
  · rfl
theorem serveL_ok (net prot : Int) (l : List Ord) (hl : l.length ≤ 1000000) : Gives Try.prog 11 [.d (dI net), .d (dI prot), .d (encOs l)] (.tup [.d (.list 1 ((outI net prot l).map dI)), .d (dI (chkE net prot l))]) := by
  rw [← srvL_map]; exact serve_ok net prot l hl
theorem outI_facts {net prot : Int} {l : List Ord} (h : chkE net prot l = 0) : (outI net prot l).length = l.length ∧ ∀ i (hi : i < (outI net prot l).length), (outI net prot l)[i] = outN (at0 (net - prot)) (priF l) (wantF l) l.length i := by
  unfold outI
  rw [if_pos h]
  exact ⟨by simp, fun i hi => by simp⟩
theorem outI_none {net prot : Int} {l : List Ord} (h : chkE net prot l ≠ 0) : outI net prot l = [] := if_neg h

def ol3 : List Ord := [⟨0, 1, 30, 99⟩, ⟨0, 2, 40, 99⟩, ⟨0, 2, 20, 99⟩]
theorem aw15a : outI 100 40 ol3 = [30, 20, 10] ∧ chkE 100 40 ol3 = 0 := by decide +kernel
theorem aw15b : paidB [⟨0, 0, 0, 5⟩] [2] = true := by decide +kernel
theorem aw15c : payL [⟨0, 0, 0, 5⟩] [2] 1 = [⟨0, 0, 0, 3⟩] := by kernel_rfl
set_option maxHeartbeats 4000000 in
theorem awake15_ok : Gives Try.prog 10 [] (.d (.bool true)) := by
  have h1 := serveL_ok 100 40 ol3 (by decide)
  rw [aw15a.1, aw15a.2] at h1
  have h2 := paid_ok [⟨0, 0, 0, 5⟩] [2] (by decide) (by decide) (by intro o ho; simp at ho; subst ho; exact ⟨by decide, by decide⟩)
  rw [aw15b, if_pos rfl] at h2
  simp only [List.length_singleton] at h2
  rw [aw15c] at h2
  have h3 := same_ok [30, 20, 10] [30, 20, 10] (by simp) (by simp)
  simp only [decide_true] at h3
  unfold ol3 at h1
  simp only [encOs, Ord.enc, Ord.cs, List.map_cons, List.map_nil] at h1 h2 h3
  refine Gives.enter tabOk Try.func10 rfl (by show 0 ≤ 42; decide) ?_
  simp only [Try.f10]
  refine WpC.seq (WpC.ops tabOk (r := []) (by simp -implicitDefEqProofs <;> rfl) rfl ?_)
  refine WpC.seq ?_
  refine WpC.region ?_
  refine WpO.run tabOk 4 (by simp -implicitDefEqProofs <;> first | exact ⟨rfl, rfl⟩ | rfl) ?_
  refine WpO.gh (Gh.frz [0]) ?_
  refine WpO.data (by simp) rfl (by simp -implicitDefEqProofs <;> rfl) (by simp -implicitDefEqProofs <;> rfl) (by simp -implicitDefEqProofs <;> rfl) call_11 (by simp) ( h1) (by rfl) (by simp -implicitDefEqProofs <;> rfl) ?_
  refine WpO.run tabOk 5 (by simp -implicitDefEqProofs <;> first | exact ⟨rfl, rfl⟩ | rfl) ?_
  refine WpO.nil ?_
  refine WpC.seq ?_
  refine WpC.region ?_
  refine WpO.run tabOk 3 (by simp -implicitDefEqProofs <;> first | exact ⟨rfl, rfl⟩ | rfl) ?_
  refine WpO.gh (Gh.frz [1, 2]) ?_
  refine WpO.data (by simp) rfl (by simp -implicitDefEqProofs <;> rfl) (by simp -implicitDefEqProofs <;> rfl) (by simp -implicitDefEqProofs <;> rfl) call_15 (by simp) ( h2) (by rfl) (by simp -implicitDefEqProofs <;> rfl) ?_
  refine WpO.run tabOk 5 (by simp -implicitDefEqProofs <;> first | exact ⟨rfl, rfl⟩ | rfl) ?_
  refine WpO.nil ?_
  refine WpC.seq ?_
  refine WpC.region ?_
  refine WpO.run tabOk 2 (by simp -implicitDefEqProofs <;> first | exact ⟨rfl, rfl⟩ | rfl) ?_
  refine WpO.lend (by simp) rfl (by simp -implicitDefEqProofs <;> rfl) (by simp -implicitDefEqProofs <;> rfl) (by simp -implicitDefEqProofs <;> rfl) call_13 (h3) (by rfl) (by simp -implicitDefEqProofs <;> rfl) ?_
  refine WpO.run tabOk 1 (by simp -implicitDefEqProofs <;> first | exact ⟨rfl, rfl⟩ | rfl) ?_
  refine WpO.splitB 23 (by simp -implicitDefEqProofs <;> rfl) (by rfl) (fun g23 => ?_) (fun g23 => ?_)
  · try (exfalso; revert g23; simp; done)
    all_goals
      have g23' := g23; first | simp only [dT, dF] at g23' | try simp at g23'
      refine WpO.run tabOk 4 (by simp -implicitDefEqProofs [g23] <;> first | exact ⟨rfl, rfl⟩ | rfl) ?_
      refine WpO.splitB 27 (by simp -implicitDefEqProofs [g23] <;> rfl) (by rfl) (fun g27 => ?_) (fun g27 => ?_)
      · try (exfalso; revert g27; simp; done)
        all_goals
          have g27' := g27; first | simp only [dT, dF] at g27' | try simp at g27'
          refine WpO.run tabOk 3 (by simp -implicitDefEqProofs [g23, g27] <;> first | exact ⟨rfl, rfl⟩ | rfl) ?_
          refine WpO.splitB 30 (by simp -implicitDefEqProofs [g23, g27] <;> rfl) (by rfl) (fun g30 => ?_) (fun g30 => ?_)
          · try (exfalso; revert g30; simp; done)
            all_goals
              have g30' := g30; first | simp only [dT, dF] at g30' | try simp at g30'
              refine WpO.run tabOk 5 (by simp -implicitDefEqProofs [g23, g27, g30] <;> first | exact ⟨rfl, rfl⟩ | rfl) ?_
              refine WpO.splitB 35 (by simp -implicitDefEqProofs [g23, g27, g30] <;> rfl) (by rfl) (fun g35 => ?_) (fun g35 => ?_)
              · try (exfalso; revert g35; simp; done)
                all_goals
                  have g35' := g35; first | simp only [dT, dF] at g35' | try simp at g35'
                  refine WpO.run tabOk 7 (by simp -implicitDefEqProofs [g23, g27, g30, g35] <;> first | exact ⟨rfl, rfl⟩ | rfl) ?_
                  refine WpO.nil ?_
                  refine WpC.ret ?_
                  try simp only [blockQ, seqQ]
                  refine retD_i (by simp -implicitDefEqProofs [g23, g27, g30, g35] <;> rfl) (by simp -implicitDefEqProofs [g23, g27, g30, g35] <;> rfl) ?_
                  simp -implicitDefEqProofs [g23, g27, g30, g35]
              · try (exfalso; revert g35; simp; done)
                all_goals
                  have g35' := g35; first | simp only [dT, dF] at g35' | try simp at g35'
                  refine WpO.run tabOk 7 (by simp -implicitDefEqProofs [g23, g27, g30, g35] <;> first | exact ⟨rfl, rfl⟩ | rfl) ?_
                  refine WpO.nil ?_
                  refine WpC.ret ?_
                  try simp only [blockQ, seqQ]
                  refine retD_i (by simp -implicitDefEqProofs [g23, g27, g30, g35] <;> rfl) (by simp -implicitDefEqProofs [g23, g27, g30, g35] <;> rfl) ?_
                  simp -implicitDefEqProofs [g23, g27, g30, g35]
          · try (exfalso; revert g30; simp; done)
            all_goals
              have g30' := g30; first | simp only [dT, dF] at g30' | try simp at g30'
              refine WpO.run tabOk 12 (by simp -implicitDefEqProofs [g23, g27, g30] <;> first | exact ⟨rfl, rfl⟩ | rfl) ?_
              refine WpO.nil ?_
              refine WpC.ret ?_
              try simp only [blockQ, seqQ]
              refine retD_i (by simp -implicitDefEqProofs [g23, g27, g30] <;> rfl) (by simp -implicitDefEqProofs [g23, g27, g30] <;> rfl) ?_
              simp -implicitDefEqProofs [g23, g27, g30]
      · try (exfalso; revert g27; simp; done)
        all_goals
          have g27' := g27; first | simp only [dT, dF] at g27' | try simp at g27'
          refine WpO.run tabOk 15 (by simp -implicitDefEqProofs [g23, g27] <;> first | exact ⟨rfl, rfl⟩ | rfl) ?_
          refine WpO.nil ?_
          refine WpC.ret ?_
          try simp only [blockQ, seqQ]
          refine retD_i (by simp -implicitDefEqProofs [g23, g27] <;> rfl) (by simp -implicitDefEqProofs [g23, g27] <;> rfl) ?_
          simp -implicitDefEqProofs [g23, g27]
  · try (exfalso; revert g23; simp; done)
    all_goals
      have g23' := g23; first | simp only [dT, dF] at g23' | try simp at g23'
      refine WpO.run tabOk 19 (by simp -implicitDefEqProofs [g23] <;> first | exact ⟨rfl, rfl⟩ | rfl) ?_
      refine WpO.nil ?_
      refine WpC.ret ?_
      try simp only [blockQ, seqQ]
      refine retD_i (by simp -implicitDefEqProofs [g23] <;> rfl) (by simp -implicitDefEqProofs [g23] <;> rfl) ?_
      simp -implicitDefEqProofs [g23]

def Ord.ok (o : Ord) : Prop := in64 o.cred ∧ in64 o.pri ∧ in64 o.claim ∧ in64 o.bal
theorem has_ord {g : Nat} {ds : List D} (h : HasT tab (g + 2) 35 ds) : ∃ o : Ord, o.ok ∧ ds = o.cs := by
  unfold HasT at h
  simp only [tab_35, Fs] at h
  obtain ⟨_, _, rfl, h1, _, _, rfl, h2, _, _, rfl, h3, _, _, rfl, h4, rfl⟩ := h
  obtain ⟨x1, rfl, k1⟩ := has_num h1 tab_3
  obtain ⟨x2, rfl, k2⟩ := has_num h2 tab_3
  obtain ⟨x3, rfl, k3⟩ := has_num h3 tab_3
  obtain ⟨x4, rfl, k4⟩ := has_num h4 tab_3
  exact ⟨⟨x1, x2, x3, x4⟩, ⟨k1, k2, k3, k4⟩, rfl⟩
theorem has_ords {g : Nat} {ds : List D} (h : HasT tab (g + 3) 22 ds) : ∃ l : List Ord, (∀ o ∈ l, o.ok) ∧ l.length ≤ maxLen ∧ ds = [encOs l] := by
  unfold HasT at h
  simp only [tab_22, tab_35] at h
  obtain ⟨xs, rfl, hl, hx⟩ := h
  have key : ∀ {xs : List D}, (∀ x ∈ xs, ∃ o : Ord, o.ok ∧ x = o.enc) → ∃ l : List Ord, xs = l.map Ord.enc ∧ ∀ o ∈ l, o.ok := by
    intro xs
    induction xs with
    | nil => intro _; exact ⟨[], rfl, by simp⟩
    | cons x xs ih =>
      intro h
      obtain ⟨o, h1, rfl⟩ := h x (by simp)
      obtain ⟨l, rfl, h2⟩ := ih fun y hy => h y (by simp [hy])
      exact ⟨o :: l, rfl, by simpa using ⟨h1, h2⟩⟩
  obtain ⟨l, rfl, h2⟩ := key fun x hx' => by
    obtain ⟨ys, h1, rfl⟩ := hx x hx'
    obtain ⟨o, h3, rfl⟩ := has_ord h1
    exact ⟨o, h3, rfl⟩
  exact ⟨l, h2, by simpa using hl, rfl⟩
def ordB (p q : Ord) : Bool := decide (p.cred = q.cred) && decide (p.pri = q.pri) && decide (p.claim = q.claim) && decide (p.bal = q.bal)
theorem eqOrd (p q : Ord) : EqT Try.prog 35 p.cs q.cs (ordB p q) := by
  refine ⟨by kernel_rfl, fun w I vs us h1 h2 => ?_⟩
  simp only [DRelL, DRel, dI, Ord.cs] at h1 h2
  obtain ⟨_, _, rfl, rfl, _, _, rfl, rfl, _, _, rfl, rfl, _, _, rfl, rfl, rfl⟩ := h1
  obtain ⟨_, _, rfl, rfl, _, _, rfl, rfl, _, _, rfl, rfl, _, _, rfl, rfl, rfl⟩ := h2
  have hu := Try.underlying35
  have hi := Try.underlying3
  have ha : ∀ w, (isAgg 3).run Try.prog w = .ok false w := fun w => by simp [isAgg, run_underlying hi]
  unfold Op.equal
  rw [show Op.maxDepth = 9999 + 1 from rfl, run_equalIn_struct w _ _ _ _ (by simp only [Program.fieldsOf, hu]) (by kernel_rfl)]
  have he : ∀ (w : World) (a b : Int), (Op.equalIn 9999 3 (.int .i64 a) (.int .i64 b)).run Try.prog w = .ok (decide (a = b)) w := fun w a b => by
    rw [show (9999 : Nat) = 9998 + 1 from rfl]
    unfold Op.equalIn
    simp [run_underlying hi]
  by_cases h1 : p.cred = q.cred <;> by_cases h2 : p.pri = q.pri <;> by_cases h3 : p.claim = q.claim <;> by_cases h4 : p.bal = q.bal <;> simp [ordB, Program.fieldsOf, hu, Op.eqFields, part, ha, he, h1, h2, h3, h4]
end Go.Proofs.Ytaobnhenjldjeaa.Pay
/- More that is so of what orders are served. No statement of the seed is proved here. -/
namespace Go.Proofs.Ytaobnhenjldjeaa.Pay
open Go Go.RowKit
set_option linter.unusedVariables false
set_option linter.unusedSimpArgs false
set_option linter.unusedSectionVars false

def insU (p : Int) : List Int → List Int
  | [] => [p]
  | x :: r => if p < x then p :: x :: r else if p = x then x :: r else x :: insU p r
theorem insU_mem (p : Int) : ∀ {l : List Int} {y : Int}, y ∈ insU p l ↔ y = p ∨ y ∈ l
  | [], y => by simp [insU]
  | x :: r, y => by
    unfold insU
    split
    · simp
    · split
      · rename_i h; subst h; simp
      · rw [List.mem_cons, insU_mem p, List.mem_cons]
        constructor
        · rintro (h | h | h) <;> simp [h]
        · rintro (h | h | h) <;> simp [h]
theorem insU_up (p : Int) : ∀ {l : List Int}, l.Pairwise (· < ·) → (insU p l).Pairwise (· < ·)
  | [], _ => by simp [insU]
  | x :: r, h => by
    obtain ⟨h1, h2⟩ := List.pairwise_cons.1 h
    unfold insU
    split
    · rename_i hp
      refine List.pairwise_cons.2 ⟨fun y hy => ?_, h⟩
      rcases List.mem_cons.1 hy with rfl | hy
      · exact hp
      · have := h1 y hy; omega
    · split
      · exact h
      · rename_i h3 h4
        refine List.pairwise_cons.2 ⟨fun y hy => ?_, insU_up p h2⟩
        rcases (insU_mem p).1 hy with rfl | hy
        · omega
        · exact h1 y hy
theorem prs_any (P : Nat → Int) (n : Nat) : ∃ ps, Prs P n ps := by
  have key : ∃ ps : List Int, ps.Pairwise (· < ·) ∧ ∀ p, p ∈ ps ↔ ∃ i, i < n ∧ P i = p := by
    induction n with
    | zero => exact ⟨[], by simp, fun p => by simp⟩
    | succ n ih =>
      obtain ⟨ps, h1, h2⟩ := ih
      refine ⟨insU (P n) ps, insU_up _ h1, fun p => ?_⟩
      rw [insU_mem, h2]
      constructor
      · rintro (rfl | ⟨i, hi, rfl⟩)
        · exact ⟨n, by omega, rfl⟩
        · exact ⟨i, by omega, rfl⟩
      · rintro ⟨i, hi, rfl⟩
        by_cases e : i = n
        · exact .inl (by rw [e])
        · exact .inr ⟨i, by omega, rfl⟩
  obtain ⟨ps, h1, h2⟩ := key
  exact ⟨ps, fun i j hi hj hij => List.pairwise_iff_getElem.1 h1 i j hi hj hij, fun i hi => (h2 _).2 ⟨i, hi, rfl⟩, fun p hp => (h2 p).1 hp⟩
theorem sumF_part {f : Nat → Int} {k n : Nat} (h : ∀ i, i < n → 0 ≤ f i) (hk : k ≤ n) : sumF f k ≤ sumF f n := by
  induction n with
  | zero => have : k = 0 := by omega
            subst this; exact Int.le_refl _
  | succ n ih =>
    by_cases e : k = n + 1
    · subst e; exact Int.le_refl _
    · have h1 := ih (fun i hi => h i (by omega)) (by omega)
      have h2 := h n (by omega)
      rw [sumF_step]; omega
theorem sumF_short {f g : Nat → Int} {n i : Nat} (h : ∀ i, i < n → f i ≤ g i) (hi : i < n) (hs : f i < g i) : sumF f n < sumF g n := by
  induction n with
  | zero => omega
  | succ n ih =>
    have h1 := sumF_le (n := n) fun i hi => h i (by omega)
    have h2 := h n (by omega)
    rw [sumF_step, sumF_step]
    by_cases e : i = n
    · subst e; omega
    · have := ih (fun i hi => h i (by omega)) (by omega)
      omega
section
variable {A : Int} {P W : Nat → Int} {n : Nat}
theorem out_total (g : GoodN A P W n) : sumF (outN A P W n) n = A - at0 (A - sumF W n) := by
  obtain ⟨ps, h⟩ := prs_any P n
  exact out_sum g h
theorem out_part (g : GoodN A P W n) {k : Nat} (hk : k ≤ n) : 0 ≤ sumF (outN A P W n) k ∧ sumF (outN A P W n) k ≤ A := by
  have h1 := sumF_part (fun i hi => (outN_le g hi).1) hk
  have h2 := out_total g
  have h3 := at0_pos (A - sumF W n)
  have h4 := sumF_pos (n := k) (f := outN A P W n) fun i hi => (outN_le g (by omega)).1
  omega
def alB (o W : Nat → Int) (k : Nat) : Bool := (List.range k).all fun i => decide (o i = W i)
theorem alB_step (o W : Nat → Int) (k : Nat) : alB o W (k + 1) = (alB o W k && decide (o k = W k)) := by
  unfold alB
  rw [List.range_succ, List.all_append]; simp
theorem alB_not (g : GoodN A P W n) (h : alB (outN A P W n) W n = false) : sumF (outN A P W n) n = A := by
  unfold alB at h
  rw [List.all_eq_false] at h
  obtain ⟨i, hi, hne⟩ := h
  have hi := List.mem_range.1 hi
  have h1 := (outN_le g hi).2
  have h2 := sumF_short (fun i hi => (outN_le g hi).2) hi (show outN A P W n i < W i by simp at hne; omega)
  have h3 := out_total g
  unfold at0 at h3
  split at h3 <;> omega
theorem low_all (g : GoodN A P W n) (p : Int) : lowS P W n p + (wN P W n p).sum ≤ sumF W n := by
  unfold lowS
  rw [wN_sum, ← sumF_add]
  refine sumF_le fun i hi => ?_
  have := g.w0 i hi
  by_cases h1 : P i < p
  · rw [if_pos h1, if_neg (by omega)]; omega
  · rw [if_neg h1]; split <;> omega
theorem low_pos (g : GoodN A P W n) (p : Int) : 0 ≤ lowS P W n p := sumF_pos fun i hi => by have := g.w0 i hi; split <;> omega
/-- With as much as all want. -/
theorem out_full (g : GoodN A P W n) (h : A = sumF W n) {i : Nat} (hi : i < n) : outN A P W n i = W i := by
  refine outN_all g hi ?_
  have := low_all g (P i)
  unfold thN at0
  split <;> omega
theorem out_zero (g : GoodN 0 P W n) {i : Nat} (hi : i < n) : outN 0 P W n i = 0 := by
  have h1 := outN_le g hi
  have h2 := outN_none g hi (by have := low_pos g (P i); unfold thN at0; split <;> omega)
  omega
/-- Alone in their priorities, with more there is nobody has less. -/
theorem out_more {B : Int} (g : GoodN A P W n) (g' : GoodN B P W n) (hAB : A ≤ B) {i : Nat} (hi : i < n) (h : ∀ j, j < n → j ≠ i → P j ≠ P i) : outN A P W n i ≤ outN B P W n i := by
  rw [outN_alone g hi h, outN_alone g' hi h]
  have : thN A P W n (P i) ≤ thN B P W n (P i) := by
    unfold thN at0
    split <;> split <;> omega
  split <;> split <;> omega
end
theorem sumF_rev (f : Nat → Int) : ∀ n : Nat, sumF (fun i => f (n - 1 - i)) n = sumF f n := by
  have key : ∀ n m : Nat, n ≤ m → sumF (fun i => f (m - 1 - i)) n + sumF f (m - n) = sumF f m := fun n m => by
    induction n with
    | zero => intro _; simp [sumF_zero]
    | succ n ih =>
      intro h
      have h1 := ih (by omega)
      have h2 := sumF_step f (m - n - 1)
      rw [show m - n - 1 + 1 = m - n by omega] at h2
      rw [sumF_step, show m - (n + 1) = m - n - 1 by omega, show m - 1 - n = m - n - 1 by omega]
      omega
  intro n
  have := key n n (Nat.le_refl _)
  rw [Nat.sub_self, sumF_zero] at this
  omega
end Go.Proofs.Ytaobnhenjldjeaa.Pay
