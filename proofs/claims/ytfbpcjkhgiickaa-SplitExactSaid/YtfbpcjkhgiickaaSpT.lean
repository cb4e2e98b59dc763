/- What is so of parts, of weights that are alike, or turned. No statement of the seed is proved here. -/
import Derived.Test.YtfbpcjkhgiickaaSpR
namespace Go.Proofs.Ytfbpcjkhgiickaa.Pay
open Go Go.RowKit
set_option linter.unusedVariables false
set_option linter.unusedSimpArgs false
set_option linter.unusedSectionVars false

/-- The part at place i of n that are alike. -/
def evF (t n i : Nat) : Nat := t / n + if i < t % n then 1 else 0
theorem sumN_congr {f g : Nat → Nat} {n : Nat} (h : ∀ i, i < n → f i = g i) : sumN f n = sumN g n :=
  Nat.le_antisymm (sumN_le fun i hi => Nat.le_of_eq (h i hi)) (sumN_le fun i hi => Nat.le_of_eq (h i hi).symm)
theorem countP_same {α : Type} {P Q : α → Bool} {l : List α} (h : ∀ x ∈ l, (P x = true ↔ Q x = true)) : l.countP P = l.countP Q :=
  Nat.le_antisymm (countP_le_of fun x hx => (h x hx).1) (countP_le_of fun x hx => (h x hx).2)
theorem pt_even {t s n c i : Nat} {w : Nat → Nat} (hw : ∀ j, j < n → w j = c) (hc : 0 < c) (hs : s = n * c) (hi : i < n) : ptN t s n w i = evF t n i := by
  have hn : 0 < n := by omega
  have hq : t * c / s = t / n := by rw [hs, Nat.mul_div_mul_right _ _ hc]
  have hsum : sumN (fun i => t * w i / s) n = n * (t / n) := by
    rw [sumN_congr (g := fun _ => t / n) fun j hj => by rw [hw j hj, hq], sumN_const]
  have ha : ahead (cS t s (fun i => (w i : Int)) (fun i => ((t * w i / s : Nat) : Int))) n i = i := by
    refine Eq.trans ?_ (countP_lt n i (Nat.le_of_lt hi))
    unfold ahead
    refine countP_same fun j hj => ?_
    have hj := List.mem_range.1 hj
    rw [decide_eq_true_iff, decide_eq_true_iff, cS_key t s w _ (fun _ => rfl) _ _ (fun _ => rfl) (fun _ => rfl), hw j hj, hw i hi]
    omega
  unfold ptN evF
  rw [ha, hsum, hw i hi, hq]
  have := Nat.div_add_mod t n
  have e2 : t - n * (t / n) = t % n := by omega
  rw [e2]
theorem sum_rep (c : Int) : ∀ n : Nat, (List.replicate n c).sum = n * c
  | 0 => by simp
  | n + 1 => by rw [List.replicate_succ, List.sum_cons, sum_rep c n, Int.natCast_add, Int.add_mul]; omega
theorem spE_ok {T : Int} {ws : List Int} (h1 : ws.length ≤ 60) (h2 : 0 ≤ T) (h3 : ∀ x ∈ ws, 0 ≤ x) : spE T ws = if 9223372036854775807 < ws.sum then 3 else if ws.sum = 0 then 4 else 0 := by
  have e : (ws.any fun w => decide (w < 0)) = false := by
    rw [List.any_eq_false]
    intro x hx
    have := h3 x hx
    simp; omega
  unfold spE sumB
  rw [if_neg (by omega), e, if_neg (by simp; omega)]
  by_cases h : ws.sum ≤ 9223372036854775807
  · rw [if_neg (by simp; omega), if_neg (by omega : ¬ 9223372036854775807 < ws.sum)]
  · rw [if_pos (by simp; omega), if_pos (by omega)]
theorem even_pt {t n c : Nat} (hn : 1 ≤ n) (hn60 : n ≤ 60) (hc : 1 ≤ c) (hm : n * c ≤ 9223372036854775807) :
    spE (t : Int) (List.replicate n (c : Int)) = 0 ∧ spS (t : Int) (List.replicate n (c : Int)) = (List.range n).map fun i => (evF t n i : Int) := by
  have hsum : (List.replicate n (c : Int)).sum = ((n * c : Nat) : Int) := by rw [sum_rep, Int.natCast_mul]
  have hpos : 0 < n * c := Nat.mul_pos hn hc
  have h0 : spE (t : Int) (List.replicate n (c : Int)) = 0 := by
    rw [spE_ok (by simpa using hn60) (by omega) fun x hx => by rw [(List.mem_replicate.1 hx).2]; omega, hsum, if_neg (by omega), if_neg (by omega)]
  refine ⟨h0, ?_⟩
  have ha : Asked (t : Int) (List.replicate n (c : Int)) t (n * c) (fun i => if i < n then c else 0) := by
    refine ⟨by simpa using hn60, rfl, hsum, hpos, fun i => ?_, ?_, by omega⟩
    · unfold spW
      rw [List.getElem?_replicate]
      by_cases h : i < n
      · simp [h]
      · simp [h]
    · rw [List.length_replicate, sumN_congr (g := fun _ => c) fun i hi => if_pos hi, sumN_const]
  rw [spS_pt h0 ha, List.length_replicate]
  exact List.map_congr_left fun i hi => by
    have hi := List.mem_range.1 hi
    rw [pt_even (fun j hj => if_pos hj) hc rfl hi]
theorem evF_le {t n i j : Nat} (h : i ≤ j) : evF t n j ≤ evF t n i ∧ evF t n i ≤ evF t n j + 1 := by
  unfold evF
  constructor
  · split <;> split <;> omega
  · split <;> split <;> omega
theorem evF_mono {t u n i : Nat} (h : t ≤ u) : evF t n i ≤ evF u n i := by
  have h1 : t / n ≤ u / n := Nat.div_le_div_right h
  unfold evF
  by_cases he : t / n = u / n
  · have e1 := Nat.div_add_mod t n
    have e2 := Nat.div_add_mod u n
    rw [he] at e1 ⊢
    split <;> split <;> omega
  · split <;> split <;> omega

/-- Weights twice as great. -/
theorem pt_twice {t s n i : Nat} {w : Nat → Nat} : ptN t (2 * s) n (fun i => 2 * w i) i = ptN t s n w i := by
  have hq : ∀ i, t * (2 * w i) / (2 * s) = t * w i / s := fun i => by rw [Nat.mul_left_comm, Nat.mul_div_mul_left _ _ (by decide)]
  have hr : ∀ i, t * (2 * w i) % (2 * s) = 2 * (t * w i % s) := fun i => by rw [Nat.mul_left_comm, Nat.mul_mod_mul_left]
  have ha : ahead (cS t (2 * s : Nat) (fun i => ((2 * w i : Nat) : Int)) (fun i => ((t * (2 * w i) / (2 * s) : Nat) : Int))) n i = ahead (cS t s (fun i => (w i : Int)) (fun i => ((t * w i / s : Nat) : Int))) n i := by
    unfold ahead
    refine countP_same fun j hj => ?_
    rw [decide_eq_true_iff, decide_eq_true_iff, cS_key t (2 * s) (fun i => 2 * w i) _ (fun _ => rfl) _ _ (fun _ => rfl) (fun _ => rfl), cS_key t s w _ (fun _ => rfl) _ _ (fun _ => rfl) (fun _ => rfl), hr, hr]
    omega
  unfold ptN
  rw [ha]
  simp only [hq]
theorem asked_spS {T : Int} {ws : List Int} {t s : Nat} {w : Nat → Nat} (h : Asked T ws t s w) (h0 : ∀ x ∈ ws, 0 ≤ x) : spE T ws = 0 := by
  rw [spE_ok h.n60 (by rw [h.t_]; omega) h0]
  have h1 := h.s_
  have h2 := h.s0
  have h3 := h.sm
  rw [if_neg (by omega), if_neg (by omega)]
theorem twice_sp {T : Int} {ws : List Int} (h1 : ws.length ≤ 60) (hT : 0 ≤ T) (h : ∀ x ∈ ws, 0 ≤ x) (hs : 2 * ws.sum ≤ 9223372036854775807) : spE T (ws.map (2 * ·)) = spE T ws ∧ spS T (ws.map (2 * ·)) = spS T ws := by
  have hsum : (ws.map (2 * ·)).sum = 2 * ws.sum := by
    clear h1 h hs
    induction ws with
    | nil => rfl
    | cons x l ih => rw [List.map_cons, List.sum_cons, List.sum_cons, ih]; omega
  have h2 : ∀ x ∈ ws.map (2 * ·), 0 ≤ x := fun x hx => by
    obtain ⟨y, hy, rfl⟩ := List.mem_map.1 hx
    have := h y hy
    omega
  have hn := sum_nonneg h
  have e : spE T (ws.map (2 * ·)) = spE T ws := by
    rw [spE_ok (by simpa using h1) hT h2, spE_ok h1 hT h, hsum, if_neg (by omega : ¬ 9223372036854775807 < 2 * ws.sum), if_neg (by omega : ¬ 9223372036854775807 < ws.sum)]
    by_cases hz : ws.sum = 0
    · rw [if_pos (by omega), if_pos hz]
    · rw [if_neg (by omega), if_neg hz]
  refine ⟨e, ?_⟩
  by_cases h0 : spE T ws = 0
  · obtain ⟨t, s, w, ha⟩ := asked h0
    have hb : Asked T (ws.map (2 * ·)) t (2 * s) (fun i => 2 * w i) := by
      refine ⟨by simpa using h1, ha.t_, by rw [hsum, ha.s_]; omega, by have := ha.s0; omega, fun i => ?_, ?_, by have := ha.s_; omega⟩
      · have := ha.w_ i
        unfold spW at this ⊢
        rw [List.getElem?_map]
        cases hx : ws[i]? with
        | none => rw [hx] at this; simp at this ⊢; omega
        | some x => rw [hx] at this; simp at this ⊢; omega
      · rw [List.length_map]
        have : ∀ k, sumN (fun i => 2 * w i) k = 2 * sumN w k := fun k => by
          induction k with
          | zero => rfl
          | succ k ih => rw [sumN_step, sumN_step, ih]; omega
        rw [this, ha.sw]
    rw [spS_pt h0 ha, spS_pt (e.trans h0) hb, List.length_map]
    exact List.map_congr_left fun i _ => by rw [pt_twice]
  · unfold spS
    rw [e, if_neg h0, if_neg h0]

/-- A weight of 0 more, behind. -/
theorem more0 {T : Int} {ws : List Int} (h1 : ws.length ≤ 59) : spE T (ws ++ [0]) = spE T ws ∧ (spE T ws = 0 → spS T (ws ++ [0]) = spS T ws ++ [0]) := by
  have hsum : (ws ++ [(0 : Int)]).sum = ws.sum := by simp
  have e : spE T (ws ++ [0]) = spE T ws := by
    unfold spE sumB
    rw [hsum, if_neg (by simp; omega), if_neg (by omega : ¬ 60 < ws.length)]
    simp
  refine ⟨e, fun h0 => ?_⟩
  obtain ⟨t, s, w, ha⟩ := asked h0
  have hwn : w ws.length = 0 := by
    have := ha.w_ ws.length
    unfold spW at this
    rw [List.getElem?_eq_none (Nat.le_refl _)] at this
    simp at this; omega
  have hb : Asked T (ws ++ [0]) t s w := by
    refine ⟨by simp; omega, ha.t_, by rw [hsum, ha.s_], ha.s0, fun i => ?_, ?_, ha.sm⟩
    · rw [← ha.w_ i]
      unfold spW
      by_cases h : i < ws.length
      · rw [List.getElem?_append_left h]
      · rw [List.getElem?_append_right (by omega), List.getElem?_eq_none (by omega : ws.length ≤ i)]
        cases i - ws.length <;> rfl
    · rw [List.length_append, List.length_singleton, sumN_step, ha.sw, hwn]; omega
  rw [spS_pt h0 ha, spS_pt (e.trans h0) hb, List.length_append, List.length_singleton, List.range_succ, List.map_append]
  congr 1
  · refine List.map_congr_left fun i hi => ?_
    have hi := List.mem_range.1 hi
    have hd : t * w ws.length / s = 0 := by rw [hwn]; simp
    have hx : ahead (cS t s (fun i => (w i : Int)) (fun i => ((t * w i / s : Nat) : Int))) (ws.length + 1) i = ahead (cS t s (fun i => (w i : Int)) (fun i => ((t * w i / s : Nat) : Int))) ws.length i := by
      unfold ahead
      rw [List.range_succ, List.countP_append]
      have : ¬ cS t s (fun i => (w i : Int)) (fun i => ((t * w i / s : Nat) : Int)) (ws.length : Int) (i : Int) < 0 := by
        rw [cS_key t s w _ (fun _ => rfl) _ _ (fun _ => rfl) (fun _ => rfl), hwn]
        simp; omega
      generalize cS t s (fun i => (w i : Int)) (fun i => ((t * w i / s : Nat) : Int)) = c at this ⊢
      simp only [Int.not_lt] at this
      simp [this]
    unfold ptN
    rw [hx, sumN_step, hd]; simp
  · have := pt_zero (t := t) (i := ws.length) ha.s0 (n := ws.length + 1) (w := w) (by rw [sumN_step, ha.sw, hwn]; omega) (by omega) hwn
    simp [this]

/-- All weights but one 0. -/
def oneW (k : Nat) : Nat → Int := upd (fun _ => 0) k 7
theorem one_pt {t n k : Nat} (hk : k < n) (hn : n ≤ 60) : spE (t : Int) ((List.range n).map (oneW k)) = 0 ∧ ∃ l : List Int, spS (t : Int) ((List.range n).map (oneW k)) = l ∧ l.length = n ∧ l[k]? = some (t : Int) := by
  have hw : ∀ i, oneW k i = ((if i = k then 7 else 0 : Nat) : Int) := fun i => by unfold oneW upd; split <;> rfl
  have hs7 : ∀ m, sumN (fun i => if i = k then 7 else 0) m = if k < m then 7 else 0 := fun m => by
    induction m with
    | zero => rfl
    | succ m ih =>
      rw [sumN_step, ih]
      by_cases h1 : k < m
      · rw [if_pos h1, if_neg (by omega), if_pos (by omega)]
      · by_cases h2 : m = k
        · rw [if_neg h1, if_pos h2, if_pos (by omega)]
        · rw [if_neg h1, if_neg h2, if_neg (by omega)]
  have h3 : ∀ x ∈ (List.range n).map (oneW k), 0 ≤ x := fun x hx => by
    obtain ⟨i, hi, rfl⟩ := List.mem_map.1 hx
    rw [hw]; omega
  have hspw : ∀ i, spW ((List.range n).map (oneW k)) i = ((if i = k then 7 else 0 : Nat) : Int) := fun i => by
    unfold spW
    by_cases h : i < n
    · rw [List.getElem?_map, List.getElem?_range h]; exact hw i
    · rw [List.getElem?_eq_none (by simp; omega), if_neg (by omega)]; rfl
  have hsum : ((List.range n).map (oneW k)).sum = 7 := by
    have h4 := sum_spW h3
    have h5 := sum_nonneg h3
    simp only [hspw, Int.toNat_natCast, List.length_map, List.length_range] at h4
    rw [hs7, if_pos hk] at h4
    omega
  have ha : Asked (t : Int) ((List.range n).map (oneW k)) t 7 (fun i => if i = k then 7 else 0) :=
    ⟨by simpa using hn, rfl, by rw [hsum]; rfl, by decide, hspw, by rw [List.length_map, List.length_range, hs7, if_pos hk], by decide⟩
  have h0 := asked_spS ha h3
  refine ⟨h0, _, rfl, by rw [spS_pt h0 ha]; simp, ?_⟩
  rw [spS_pt h0 ha, List.length_map, List.length_range, List.getElem?_map, List.getElem?_range hk]
  have hl : t - sumN (fun i => t * (if i = k then 7 else 0) / 7) n = 0 := by
    have h6 := sumN_mono (fun i => t * (if i = k then 7 else 0) / 7) (show k + 1 ≤ n from hk)
    rw [sumN_step] at h6
    simp only [if_pos] at h6
    rw [Nat.mul_div_cancel _ (by decide)] at h6
    omega
  show some ((ptN t 7 n (fun i => if i = k then 7 else 0) k : Nat) : Int) = _
  unfold ptN
  rw [hl, if_neg (by omega)]
  simp [Nat.mul_div_cancel]
end Go.Proofs.Ytfbpcjkhgiickaa.Pay
