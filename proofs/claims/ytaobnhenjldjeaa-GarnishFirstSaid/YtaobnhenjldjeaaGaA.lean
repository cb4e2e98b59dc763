/- What orders are served, plain. No statement of the seed is proved here. -/
import Derived.Test.YtaobnhenjldjeaaSpT
namespace Go.Proofs.Ytaobnhenjldjeaa.Pay
open Go Go.RowKit
set_option linter.unusedVariables false
set_option linter.unusedSimpArgs false
set_option linter.unusedSectionVars false

def sumF (f : Nat → Int) (n : Nat) : Int := ((List.range n).map f).sum
theorem sumF_step (f : Nat → Int) (n : Nat) : sumF f (n + 1) = sumF f n + f n := by
  unfold sumF
  rw [List.range_succ, List.map_append, List.sum_append]; simp
theorem sumF_zero (f : Nat → Int) : sumF f 0 = 0 := rfl
theorem sumF_congr {f g : Nat → Int} : ∀ {n : Nat}, (∀ i, i < n → f i = g i) → sumF f n = sumF g n
  | 0, _ => rfl
  | n + 1, h => by rw [sumF_step, sumF_step, sumF_congr fun i hi => h i (by omega), h n (by omega)]
theorem sumF_add (f g : Nat → Int) : ∀ n : Nat, sumF (fun i => f i + g i) n = sumF f n + sumF g n
  | 0 => rfl
  | n + 1 => by rw [sumF_step, sumF_step, sumF_step, sumF_add f g n]; omega
theorem sumF_le {f g : Nat → Int} : ∀ {n : Nat}, (∀ i, i < n → f i ≤ g i) → sumF f n ≤ sumF g n
  | 0, _ => Int.le_refl _
  | n + 1, h => by
    have h1 := sumF_le (n := n) fun i hi => h i (by omega)
    have h2 := h n (by omega)
    rw [sumF_step, sumF_step]; omega
theorem sumF_none (n : Nat) : sumF (fun _ => 0) n = 0 := by
  induction n with
  | zero => rfl
  | succ n ih => rw [sumF_step, ih]; rfl
theorem sumF_pos {f : Nat → Int} {n : Nat} (h : ∀ i, i < n → 0 ≤ f i) : 0 ≤ sumF f n := by
  have := sumF_le (f := fun _ => 0) (g := f) h
  rw [sumF_none] at this; exact this
theorem sumF_one {f : Nat → Int} {n i : Nat} (h : ∀ i, i < n → 0 ≤ f i) (hi : i < n) : f i ≤ sumF f n := by
  induction n with
  | zero => omega
  | succ n ih =>
    have h1 := sumF_pos (n := n) fun i hi => h i (by omega)
    have h2 := h n (by omega)
    rw [sumF_step]
    by_cases hn : i = n
    · subst hn; omega
    · have := ih (fun i hi => h i (by omega)) (by omega)
      omega
theorem sumF_big {f : Nat → Int} {b : Int} (hb : 0 ≤ b) : ∀ {n : Nat}, (∀ i, i < n → f i ≤ b) → sumF f n ≤ n * b
  | 0, _ => by simp [sumF_zero]
  | n + 1, h => by
    have h1 := sumF_big hb (n := n) fun i hi => h i (by omega)
    have h2 := h n (by omega)
    rw [sumF_step, Int.natCast_add, Int.add_mul]; omega
theorem sum_filt (f : Nat → Int) (p : Nat → Bool) : ∀ n : Nat, (((List.range n).filter p).map f).sum = sumF (fun i => if p i = true then f i else 0) n
  | 0 => rfl
  | n + 1 => by
    rw [sumF_step, List.range_succ, List.filter_append, List.map_append, List.sum_append, sum_filt f p n]
    cases h : p n <;> simp [h]

/-- The places whose P is p, and their wants. -/
def atN (P : Nat → Int) (n : Nat) (p : Int) : List Nat := (List.range n).filter fun i => decide (P i = p)
def wN (P W : Nat → Int) (n : Nat) (p : Int) : List Int := (atN P n p).map W
/-- All wants ahead of p; what is there for p. -/
def lowS (P W : Nat → Int) (n : Nat) (p : Int) : Int := sumF (fun i => if P i < p then W i else 0) n
def at0 (x : Int) : Int := if x < 0 then 0 else x
def thN (A : Int) (P W : Nat → Int) (n : Nat) (p : Int) : Int := at0 (A - lowS P W n p)
def pN (A : Int) (P W : Nat → Int) (n : Nat) (p : Int) : List Int := if thN A P W n p < (wN P W n p).sum then spS (thN A P W n p) (wN P W n p) else wN P W n p
def posN (P : Nat → Int) (i : Nat) : Nat := (atN P i (P i)).length
/-- What the order at place i is paid. -/
def outN (A : Int) (P W : Nat → Int) (n i : Nat) : Int := ((pN A P W n (P i))[posN P i]?).getD 0
section
variable {A : Int} {P W : Nat → Int} {n : Nat}
theorem atN_step (p : Int) : atN P (n + 1) p = if P n = p then atN P n p ++ [n] else atN P n p := by
  unfold atN
  rw [List.range_succ, List.filter_append]
  by_cases h : P n = p
  · rw [if_pos h]; simp [h]
  · rw [if_neg h]; simp [h]
theorem wN_step (p : Int) : wN P W (n + 1) p = if P n = p then wN P W n p ++ [W n] else wN P W n p := by
  unfold wN
  rw [atN_step]
  split
  · rw [List.map_append]; rfl
  · rfl
theorem wN_len (p : Int) : (wN P W n p).length = (atN P n p).length := by simp [wN]
theorem atN_len (p : Int) : (atN P n p).length ≤ n := by
  have := List.length_filter_le (fun i => decide (P i = p)) (List.range n)
  simpa [atN] using this
theorem atN_mem {p : Int} {i : Nat} : i ∈ atN P n p ↔ i < n ∧ P i = p := by simp [atN]
theorem wN_sum (p : Int) : (wN P W n p).sum = sumF (fun i => if P i = p then W i else 0) n := by
  unfold wN atN
  rw [sum_filt]
  exact sumF_congr fun i _ => by simp
/-- The j-th place of a group. -/
theorem atN_pos {p : Int} {j i : Nat} (h : (atN P n p)[j]? = some i) : i < n ∧ P i = p ∧ posN P i = j := by
  induction n with
  | zero => simp [atN] at h
  | succ n ih =>
    rw [atN_step] at h
    by_cases hp : P n = p
    · rw [if_pos hp] at h
      by_cases hj : j < (atN P n p).length
      · rw [List.getElem?_append_left hj] at h
        obtain ⟨h1, h2, h3⟩ := ih h
        exact ⟨by omega, h2, h3⟩
      · rw [List.getElem?_append_right (by omega)] at h
        have : j - (atN P n p).length = 0 := by
          rcases hz : j - (atN P n p).length with _ | m
          · rfl
          · rw [hz] at h; simp at h
        rw [this] at h
        simp at h
        subst h
        refine ⟨by omega, hp, ?_⟩
        unfold posN
        rw [hp]; omega
    · rw [if_neg hp] at h
      obtain ⟨h1, h2, h3⟩ := ih h
      exact ⟨by omega, h2, h3⟩
theorem atN_at {i : Nat} (hi : i < n) : (atN P n (P i))[posN P i]? = some i := by
  have hm : i ∈ atN P n (P i) := atN_mem.2 ⟨hi, rfl⟩
  obtain ⟨j, hj, e⟩ := List.getElem_of_mem hm
  have h := List.getElem?_eq_getElem hj
  rw [e] at h
  rw [(atN_pos h).2.2, h]

structure GoodN (A : Int) (P W : Nat → Int) (n : Nat) : Prop where
  A0 : 0 ≤ A
  n8 : n ≤ 8
  w0 : ∀ i, i < n → 0 ≤ W i
  wb : ∀ i, i < n → W i ≤ 1125899906842624
theorem wN_ok (g : GoodN A P W n) (p : Int) : (wN P W n p).length ≤ 8 ∧ (∀ x ∈ wN P W n p, 0 ≤ x ∧ x ≤ 1125899906842624) ∧ 0 ≤ (wN P W n p).sum ∧ (wN P W n p).sum ≤ 9007199254740992 := by
  have h1 : ∀ i, i < n → 0 ≤ (if P i = p then W i else 0) ∧ (if P i = p then W i else 0) ≤ 1125899906842624 := fun i hi => by
    have := g.w0 i hi
    have := g.wb i hi
    split <;> omega
  refine ⟨by rw [wN_len]; exact Nat.le_trans (atN_len p) g.n8, fun x hx => ?_, ?_, ?_⟩
  · unfold wN at hx
    obtain ⟨i, hi, rfl⟩ := List.mem_map.1 hx
    have hi := (atN_mem.1 hi).1
    exact ⟨g.w0 i hi, g.wb i hi⟩
  · rw [wN_sum]; exact sumF_pos fun i hi => (h1 i hi).1
  · rw [wN_sum]
    have := sumF_big (b := 1125899906842624) (by decide) fun i hi => (h1 i hi).2
    have := g.n8
    omega
theorem at0_pos (x : Int) : 0 ≤ at0 x := by unfold at0; split <;> omega
theorem pN_spE (g : GoodN A P W n) {p : Int} (h : thN A P W n p < (wN P W n p).sum) : spE (thN A P W n p) (wN P W n p) = 0 := by
  obtain ⟨h1, h2, h3, h4⟩ := wN_ok g p
  have := at0_pos (A - lowS P W n p)
  unfold thN at h ⊢
  rw [spE_ok (by omega) this fun x hx => (h2 x hx).1, if_neg (by omega), if_neg (by omega)]
theorem pt_le {t s n i : Nat} {w : Nat → Nat} (hs : 0 < s) (hw : sumN w n = s) (hts : t < s) (hi : i < n) : ptN t s n w i ≤ w i := by
  by_cases h0 : w i = 0
  · rw [pt_zero hs hw hi h0]; omega
  · have h1 : t * w i / s < w i := by
      rw [Nat.div_lt_iff_lt_mul hs, Nat.mul_comm]
      exact Nat.mul_lt_mul_of_pos_left hts (by omega)
    unfold ptN
    split <;> omega
/-- Parts are told: as many as the group has; none below 0 nor above its weight; together what is there. -/
theorem pN_ok (g : GoodN A P W n) (p : Int) : (pN A P W n p).length = (atN P n p).length ∧ (∀ j (h : j < (pN A P W n p).length) (h' : j < (wN P W n p).length), 0 ≤ (pN A P W n p)[j] ∧ (pN A P W n p)[j] ≤ (wN P W n p)[j]) ∧ (pN A P W n p).sum = if thN A P W n p < (wN P W n p).sum then thN A P W n p else (wN P W n p).sum := by
  obtain ⟨h1, h2, h3, h4⟩ := wN_ok g p
  unfold pN
  split
  · rename_i h
    have he := pN_spE g h
    have hwh := whole he
    obtain ⟨t, s, w, ha⟩ := asked he
    have hpt := spS_pt he ha
    refine ⟨by rw [hwh.len, wN_len], fun j hj hj' => ⟨hwh.pos j hj, ?_⟩, hwh.sum⟩
    have hwj : (wN P W n p)[j] = (w j : Int) := by rw [← ha.w_ j]; unfold spW; rw [List.getElem?_eq_getElem hj']; rfl
    have hts : t < s := by have := ha.t_; have := ha.s_; omega
    have hj2 : (spS (thN A P W n p) (wN P W n p))[j] = (ptN t s (wN P W n p).length w j : Int) := by simp [hpt]
    rw [hwj, hj2]
    have := pt_le ha.s0 ha.sw hts hj'
    omega
  · refine ⟨wN_len p, fun j hj hj' => ⟨(h2 _ (List.getElem_mem _)).1, Int.le_refl _⟩, rfl⟩
theorem outN_at (g : GoodN A P W n) {i : Nat} (hi : i < n) : ∃ (h : posN P i < (pN A P W n (P i)).length) (h' : posN P i < (wN P W n (P i)).length), outN A P W n i = (pN A P W n (P i))[posN P i] ∧ W i = (wN P W n (P i))[posN P i] := by
  have hat := atN_at (P := P) hi
  have hlt : posN P i < (atN P n (P i)).length := by
    rcases Nat.lt_or_ge (posN P i) (atN P n (P i)).length with h | h
    · exact h
    · rw [List.getElem?_eq_none h] at hat; simp at hat
  have h1 : posN P i < (pN A P W n (P i)).length := by rw [(pN_ok g _).1]; exact hlt
  have h2 : posN P i < (wN P W n (P i)).length := by rw [wN_len]; exact hlt
  refine ⟨h1, h2, by unfold outN; rw [List.getElem?_eq_getElem h1]; rfl, ?_⟩
  have h3 : (wN P W n (P i))[posN P i]? = some (W i) := by unfold wN; rw [List.getElem?_map, hat]; rfl
  rw [List.getElem?_eq_getElem h2] at h3
  exact (Option.some.inj h3).symm
/-- No order is paid more than its want. -/
theorem outN_le (g : GoodN A P W n) {i : Nat} (hi : i < n) : 0 ≤ outN A P W n i ∧ outN A P W n i ≤ W i := by
  obtain ⟨h1, h2, e1, e2⟩ := outN_at g hi
  have h3 := (pN_ok g (P i)).2.1 (posN P i) h1 h2
  rw [← e1, ← e2] at h3
  exact h3
theorem outN_all (g : GoodN A P W n) {i : Nat} (hi : i < n) (h : (wN P W n (P i)).sum ≤ thN A P W n (P i)) : outN A P W n i = W i := by
  obtain ⟨h1, h2, e1, e2⟩ := outN_at g hi
  rw [e1, e2]
  have : pN A P W n (P i) = wN P W n (P i) := if_neg (by omega)
  simp only [this]
theorem sum_mem {l : List Int} (h : ∀ x ∈ l, 0 ≤ x) {x : Int} (hx : x ∈ l) : x ≤ l.sum := by
  induction l with
  | nil => simp at hx
  | cons y l ih =>
    have h1 := sum_nonneg (l := l) fun z hz => h z (by simp [hz])
    have h2 := h y (by simp)
    rw [List.sum_cons]
    rcases List.mem_cons.1 hx with rfl | hx
    · omega
    · have := ih (fun z hz => h z (by simp [hz])) hx
      omega
theorem outN_none (g : GoodN A P W n) {i : Nat} (hi : i < n) (h : thN A P W n (P i) ≤ 0) : outN A P W n i ≤ 0 := by
  obtain ⟨h1, h2, e1, e2⟩ := outN_at g hi
  obtain ⟨h3, h4, h5⟩ := pN_ok g (P i)
  have h6 := sum_mem (l := pN A P W n (P i)) (fun x hx => by
    obtain ⟨j, hj, rfl⟩ := List.getElem_of_mem hx
    exact (h4 j hj (by rw [wN_len, ← h3]; exact hj)).1) (List.getElem_mem h1)
  rw [h5] at h6
  rw [e1]
  split at h6 <;> omega
theorem low_next {p q : Int} (g : GoodN A P W n) (h : p < q) : lowS P W n p + (wN P W n p).sum ≤ lowS P W n q := by
  unfold lowS
  rw [wN_sum, ← sumF_add]
  refine sumF_le fun i hi => ?_
  have := g.w0 i hi
  by_cases h1 : P i < p
  · rw [if_pos h1, if_neg (by omega), if_pos (by omega)]; omega
  · by_cases h2 : P i = p
    · rw [if_neg h1, if_pos h2, if_pos (by omega)]; omega
    · rw [if_neg h1, if_neg h2]; split <;> omega
/-- Somebody later is paid only if all ahead have their wants. -/
theorem outN_first (g : GoodN A P W n) {i j : Nat} (hi : i < n) (hj : j < n) (hp : P j < P i) (h : 0 < outN A P W n i) : outN A P W n j = W j := by
  refine outN_all g hj ?_
  have h1 : 0 < thN A P W n (P i) := by
    rcases Int.lt_or_le 0 (thN A P W n (P i)) with h2 | h2
    · exact h2
    · have := outN_none g hi h2; omega
  have h3 := low_next g hp
  unfold thN at0 at h1 ⊢
  split at h1
  · omega
  · split <;> omega

/-- All priorities, rising, each once. -/
structure Prs (P : Nat → Int) (n : Nat) (ps : List Int) : Prop where
  up : ∀ i j (hi : i < ps.length) (hj : j < ps.length), i < j → ps[i] < ps[j]
  all : ∀ i, i < n → P i ∈ ps
  some : ∀ p ∈ ps, ∃ i, i < n ∧ P i = p
def ahS (P W : Nat → Int) (n : Nat) (ps : List Int) (k : Nat) : Int := sumF (fun i => if P i ∈ ps.take k then W i else 0) n
variable {ps : List Int}
theorem Prs.take (h : Prs P n ps) {k i : Nat} (hk : k < ps.length) (hi : i < n) : P i ∈ ps.take k ↔ P i < ps[k] := by
  constructor
  · intro hm
    obtain ⟨j, hj, e⟩ := List.getElem_of_mem hm
    rw [List.getElem_take] at e
    rw [List.length_take] at hj
    rw [← e]
    exact h.up j k (by omega) hk (by omega)
  · intro hlt
    obtain ⟨j, hj, e⟩ := List.getElem_of_mem (h.all i hi)
    have hjk : j < k := by
      rcases Nat.lt_trichotomy j k with h1 | h1 | h1
      · exact h1
      · subst h1; omega
      · have := h.up k j hk hj h1; omega
    rw [← e]
    exact List.mem_take_iff_getElem.2 ⟨j, by omega, rfl⟩
theorem Prs.low (h : Prs P n ps) {k : Nat} (hk : k < ps.length) : ahS P W n ps k = lowS P W n ps[k] := by
  unfold ahS lowS
  refine sumF_congr fun i hi => ?_
  have := h.take hk hi
  by_cases h1 : P i < ps[k]
  · rw [if_pos (this.2 h1), if_pos h1]
  · rw [if_neg (fun q => h1 (this.1 q)), if_neg h1]
theorem take_in {k : Nat} (hk : k < ps.length) {x : Int} : x ∈ ps.take (k + 1) ↔ x ∈ ps.take k ∨ x = ps[k] := by
  rw [List.take_add_one, List.getElem?_eq_getElem hk]; simp only [Option.toList_some, List.mem_append, List.mem_singleton]
theorem Prs.not (h : Prs P n ps) {k : Nat} (hk : k < ps.length) : ¬ ps[k] ∈ ps.take k := fun hm => by
  obtain ⟨j, hj, e⟩ := List.getElem_of_mem hm
  rw [List.getElem_take] at e
  rw [List.length_take] at hj
  have := h.up j k (by omega) hk (by omega)
  omega
theorem Prs.ahead (h : Prs P n ps) (f : Nat → Int) {k : Nat} (hk : k < ps.length) : sumF (fun i => if P i ∈ ps.take (k + 1) then f i else 0) n = sumF (fun i => if P i ∈ ps.take k then f i else 0) n + sumF (fun i => if P i = ps[k] then f i else 0) n := by
  rw [← sumF_add]
  refine sumF_congr fun i hi => ?_
  have h1 := take_in hk (x := P i)
  have h2 := h.not hk
  by_cases e : P i = ps[k]
  · rw [if_pos (h1.2 (.inr e)), if_pos e, if_neg (by rw [e]; exact h2)]; omega
  · by_cases e2 : P i ∈ ps.take k
    · rw [if_pos (h1.2 (.inl e2)), if_pos e2, if_neg e]; omega
    · rw [if_neg (fun q => (h1.1 q).elim e2 e), if_neg e2, if_neg e]; rfl
theorem outs (g : GoodN A P W n) (p : Int) : (atN P n p).map (outN A P W n) = pN A P W n p := by
  apply List.ext_getElem?
  intro j
  rw [List.getElem?_map]
  cases h : (atN P n p)[j]? with
  | none =>
    rw [List.getElem?_eq_none_iff] at h
    rw [List.getElem?_eq_none (by rw [(pN_ok g p).1]; exact h)]; rfl
  | some i =>
    obtain ⟨h1, h2, h3⟩ := atN_pos h
    have hlt : j < (atN P n p).length := by
      rcases Nat.lt_or_ge j (atN P n p).length with q | q
      · exact q
      · rw [List.getElem?_eq_none q] at h; simp at h
    have hlt2 : j < (pN A P W n p).length := by rw [(pN_ok g p).1]; exact hlt
    show some (outN A P W n i) = _
    unfold outN
    rw [h2, h3, List.getElem?_eq_getElem hlt2]; rfl
theorem outs_sum (g : GoodN A P W n) (p : Int) : sumF (fun i => if P i = p then outN A P W n i else 0) n = (pN A P W n p).sum := by
  rw [← outs g p, atN, sum_filt]
  exact sumF_congr fun i _ => by simp
theorem th_next (g : GoodN A P W n) (h : Prs P n ps) {k : Nat} (hk : k < ps.length) : thN A P W n ps[k] = at0 (A - ahS P W n ps k) ∧ ahS P W n ps (k + 1) = ahS P W n ps k + (wN P W n ps[k]).sum ∧ at0 (A - ahS P W n ps (k + 1)) = at0 (A - ahS P W n ps k) - (pN A P W n ps[k]).sum := by
  have h1 : thN A P W n ps[k] = at0 (A - ahS P W n ps k) := by unfold thN; rw [h.low hk]
  have h2 : ahS P W n ps (k + 1) = ahS P W n ps k + (wN P W n ps[k]).sum := by rw [wN_sum]; exact h.ahead W hk
  refine ⟨h1, h2, ?_⟩
  have h3 := (wN_ok g ps[k]).2.2.1
  rw [(pN_ok g ps[k]).2.2, h2, h1]
  unfold at0
  split <;> split <;> (try split) <;> omega
/-- All together are paid what there is, or what they want. -/
theorem out_sum (g : GoodN A P W n) (h : Prs P n ps) : sumF (outN A P W n) n = A - at0 (A - sumF W n) := by
  have key : ∀ k, k ≤ ps.length → sumF (fun i => if P i ∈ ps.take k then outN A P W n i else 0) n = A - at0 (A - ahS P W n ps k) := fun k => by
    induction k with
    | zero =>
      intro _
      have e1 : sumF (fun i => if P i ∈ ps.take 0 then outN A P W n i else 0) n = 0 := (sumF_congr fun i _ => by simp).trans (sumF_none n)
      have e2 : ahS P W n ps 0 = 0 := (sumF_congr fun i _ => by simp).trans (sumF_none n)
      rw [e1, e2]
      have := g.A0
      unfold at0; split <;> omega
    | succ k ih =>
      intro hk
      rw [h.ahead _ hk, ih (by omega), outs_sum g, (th_next g h hk).2.2]; omega
  have h1 := key ps.length (Nat.le_refl _)
  have e : ∀ f : Nat → Int, sumF (fun i => if P i ∈ ps.take ps.length then f i else 0) n = sumF f n := fun f => sumF_congr fun i hi => by
    rw [List.take_of_length_le (Nat.le_refl _), if_pos (h.all i hi)]
  unfold ahS at h1
  rw [e, e] at h1
  exact h1

/-- Alone in its priority. -/
theorem outN_alone (g : GoodN A P W n) {i : Nat} (hi : i < n) (h : ∀ j, j < n → j ≠ i → P j ≠ P i) : outN A P W n i = if W i ≤ thN A P W n (P i) then W i else thN A P W n (P i) := by
  have hs : (wN P W n (P i)).sum = W i := by
    rw [wN_sum]
    have : ∀ m, m ≤ n → sumF (fun j => if P j = P i then W j else 0) m = if i < m then W i else 0 := fun m => by
      induction m with
      | zero => intro _; rfl
      | succ m ih =>
        intro hm
        rw [sumF_step, ih (by omega)]
        by_cases e : m = i
        · subst e; simp
        · have h1 := h m (by omega) e
          rw [if_neg h1]
          by_cases e2 : i < m
          · rw [if_pos e2, if_pos (by omega)]; omega
          · rw [if_neg e2, if_neg (by omega)]; rfl
    rw [this n (Nat.le_refl _), if_pos hi]
  have hsum := outs_sum g (P i)
  have hone : sumF (fun j => if P j = P i then outN A P W n j else 0) n = outN A P W n i := by
    have : ∀ m, m ≤ n → sumF (fun j => if P j = P i then outN A P W n j else 0) m = if i < m then outN A P W n i else 0 := fun m => by
      induction m with
      | zero => intro _; rfl
      | succ m ih =>
        intro hm
        rw [sumF_step, ih (by omega)]
        by_cases e : m = i
        · subst e; simp
        · have h1 := h m (by omega) e
          rw [if_neg h1]
          by_cases e2 : i < m
          · rw [if_pos e2, if_pos (by omega)]; omega
          · rw [if_neg e2, if_neg (by omega)]; rfl
    rw [this n (Nat.le_refl _), if_pos hi]
  rw [← hone, hsum, (pN_ok g _).2.2, hs]
  split <;> split <;> omega
end
end Go.Proofs.Ytaobnhenjldjeaa.Pay
