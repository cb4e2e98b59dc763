/- What is so of parts. No statement of the seed is proved here. -/
import Derived.Test.YtfbpcjkhgiickaaSpX
namespace Go.Proofs.Ytfbpcjkhgiickaa.Pay
open Go Go.RowKit
set_option linter.unusedVariables false
set_option linter.unusedSimpArgs false
set_option linter.unusedSectionVars false

theorem countP_le_of {α : Type} {P Q : α → Bool} : ∀ {l : List α}, (∀ x ∈ l, P x = true → Q x = true) → l.countP P ≤ l.countP Q
  | [], _ => by simp
  | x :: l, h => by
    have ih := countP_le_of (l := l) fun y hy => h y (by simp [hy])
    have hx := h x (by simp)
    rw [List.countP_cons, List.countP_cons]
    cases hp : P x <;> cases hq : Q x <;> simp_all <;> omega
theorem countP_lt_of {α : Type} {P Q : α → Bool} : ∀ {l : List α}, (∀ x ∈ l, P x = true → Q x = true) → (∃ x ∈ l, P x = false ∧ Q x = true) → l.countP P < l.countP Q
  | [], _, h => by obtain ⟨x, hx, _⟩ := h; simp at hx
  | x :: l, h, ⟨y, hy, hy2⟩ => by
    have hl := countP_le_of (P := P) (Q := Q) (l := l) fun y hy => h y (by simp [hy])
    have hx := h x (by simp)
    rw [List.countP_cons, List.countP_cons]
    rcases List.mem_cons.1 hy with rfl | hy
    · rw [hy2.1, hy2.2]; simp; omega
    · have ih := countP_lt_of (P := P) (Q := Q) (l := l) (fun y hy => h y (by simp [hy])) ⟨y, hy, hy2⟩
      cases hp : P x <;> cases hq : Q x <;> simp_all <;> omega
section
variable {c : Int → Int → Int} {n : Nat}
theorem okS_nat {i : Nat} (h : i < n) : okS n (i : Int) := ⟨by omega, by omega⟩
theorem ahead_less (hc : Cmp c (okS n)) {i j : Nat} (hi : i < n) (hj : j < n) (h : c (j : Int) (i : Int) < 0) : ahead c n j < ahead c n i := by
  unfold ahead
  refine countP_lt_of (fun k hk hkj => ?_) ⟨j, List.mem_range.2 hj, ?_, decide_eq_true h⟩
  · have hkn := List.mem_range.1 hk
    exact decide_eq_true (hc.tr _ _ _ (okS_nat hkn) (okS_nat hj) (okS_nat hi) (of_decide_eq_true hkj) h)
  · exact decide_eq_false (hc.irr (okS_nat hj))
theorem ahead_inj (hc : Cmp c (okS n)) {i j : Nat} (hi : i < n) (hj : j < n) (h : ahead c n i = ahead c n j) : i = j := by
  apply Classical.byContradiction
  intro hne
  rcases hc.tot (i : Int) (j : Int) (okS_nat hi) (okS_nat hj) (by omega) with h1 | h1
  · have := ahead_less hc hj hi h1; omega
  · have := ahead_less hc hi hj h1; omega
theorem ahead_lt (hc : Cmp c (okS n)) {i : Nat} (hi : i < n) : ahead c n i < n := by
  have h1 : ahead c n i < (List.range n).countP fun _ => true := countP_lt_of (fun _ _ _ => rfl) ⟨i, List.mem_range.2 hi, decide_eq_false (hc.irr (okS_nat hi)), rfl⟩
  simpa using h1
/-- Just so many are ahead of place l. -/
theorem ahead_count (hc : Cmp c (okS n)) {l : Nat} (hl : l ≤ n) : (List.range n).countP (fun (i : Nat) => decide (ahead c n i < l)) = l := by
  have hp := onto (n := n) (f := fun i => ahead c n i) (fun i hi => ahead_lt hc hi) (fun i j hi hj h => ahead_inj hc hi hj h)
  have e : (List.range n).countP (fun (i : Nat) => decide (ahead c n i < l)) = ((List.range n).map fun (i : Nat) => ahead c n i).countP fun x => decide (x < l) := by rw [List.countP_map]; rfl
  rw [e, hp.countP_eq]
  exact countP_lt n l hl
end

theorem cS_key (t s : Nat) (w p : Nat → Nat) (hp : ∀ i, p i = t * w i / s) (wf pf : Nat → Int) (hw : ∀ i, wf i = w i) (hpf : ∀ i, pf i = p i) (j i : Nat) : cS t s wf pf (j : Int) (i : Int) < 0 ↔ (t * w i % s < t * w j % s ∨ (t * w i % s = t * w j % s ∧ j < i)) := by
  have hr : ∀ k, (t : Int) * wf k - pf k * s = ((t * w k % s : Nat) : Int) := fun k => by
    rw [hw, hpf, hp, ← Int.natCast_mul, ← Int.natCast_mul]
    have := Nat.div_add_mod' (t * w k) s
    omega
  have e : ∀ i j, lessB t s wf pf i j = true ↔ t * w i % s < t * w j % s := fun i j => by
    have h1 := hr i
    have h2 := hr j
    unfold lessB
    rw [decide_eq_true_iff, Int.mul_sub, Int.sub_mul]
    omega
  unfold cS
  simp only [Int.toNat_natCast]
  by_cases h1 : lessB t s wf pf i j = true
  · rw [if_pos h1]
    have := (e _ _).1 h1
    omega
  · rw [if_neg h1]
    have h1' : ¬ _ := fun q => h1 ((e _ _).2 q)
    by_cases h2 : lessB t s wf pf j i = true
    · rw [if_pos h2]
      have := (e _ _).1 h2
      omega
    · rw [if_neg h2]
      have h2' : ¬ _ := fun q => h2 ((e _ _).2 q)
      omega

/-- What Split is asked, when nothing is wrong. -/
structure Asked (T : Int) (ws : List Int) (t s : Nat) (w : Nat → Nat) : Prop where
  n60 : ws.length ≤ 60
  t_ : T = t
  s_ : ws.sum = s
  s0 : 0 < s
  w_ : ∀ i, spW ws i = w i
  sw : sumN w ws.length = s
  sm : (s : Int) ≤ 9223372036854775807
theorem asked {T : Int} {ws : List Int} (h : spE T ws = 0) : ∃ t s w, Asked T ws t s w := by
  unfold spE at h
  split at h
  · simp at h
  · rename_i h60
    split at h
    · simp at h
    · rename_i hneg
      split at h
      · simp at h
      · rename_i hs
        split at h
        · simp at h
        · rename_i hz
          have h0 : ∀ x ∈ ws, 0 ≤ x := fun x hx => by
            have hf : (ws.any fun w => decide (w < 0)) = false := by
              cases hb : (ws.any fun w => decide (w < 0)) with
              | false => rfl
              | true => exact absurd (.inr hb) hneg
            rw [List.any_eq_false] at hf
            have := hf x hx
            simp at this; omega
          have hsum := sum_nonneg h0
          have hsb : sumB ws = true := by cases hb : sumB ws with
            | true => rfl
            | false => exact absurd hb hs
          have hsM := of_decide_eq_true hsb
          refine ⟨T.toNat, ws.sum.toNat, fun i => (spW ws i).toNat, ⟨by omega, by omega, by omega, by omega, fun i => ?_, sum_spW h0, by omega⟩⟩
          have : 0 ≤ spW ws i := by
            unfold spW
            cases hi : ws[i]? with
            | none => simp
            | some x => exact h0 x (List.mem_of_getElem? hi)
          omega
section
variable {T : Int} {ws : List Int} {t s : Nat} {w : Nat → Nat}
/-- A part, told by numbers. -/
def ptN (t s n : Nat) (w : Nat → Nat) (i : Nat) : Nat := t * w i / s + if ahead (cS t s (fun i => (w i : Int)) (fun i => ((t * w i / s : Nat) : Int))) n i < t - sumN (fun i => t * w i / s) n then 1 else 0
theorem splitF_pt (h : Asked T ws t s w) (i : Nat) : splitF T ws i = ptN t s ws.length w i := by
  have e1 : spN T ws = fun i => t * w i / s := by
    funext i; unfold spN; rw [h.w_, h.t_, h.s_]; rfl
  have e2 : spP T ws = fun i => ((t * w i / s : Nat) : Int) := by funext i; unfold spP; rw [e1]
  have e3 : spW ws = fun i => (w i : Int) := by funext i; exact h.w_ i
  unfold splitF ptN spL
  rw [e1, e2, e3, h.t_, h.s_]
  simp only [Int.toNat_natCast]
  split <;> simp
theorem spS_pt (h0 : spE T ws = 0) (h : Asked T ws t s w) : spS T ws = (List.range ws.length).map fun i => (ptN t s ws.length w i : Int) := by
  unfold spS
  rw [if_pos h0]
  exact List.map_congr_left fun i _ => splitF_pt h i
end
section
variable {t s n : Nat} {w : Nat → Nat}
theorem cS_cmpN (t s n : Nat) (w : Nat → Nat) : Cmp (cS t s (fun i => (w i : Int)) (fun i => ((t * w i / s : Nat) : Int))) (okS n) := cS_cmp _ _ _ _ n
theorem rem_sum (hw : sumN w n = s) : (t - sumN (fun i => t * w i / s) n) * s = sumN (fun i => t * w i % s) n := by
  have h := sumN_div t s w n
  rw [hw] at h
  rw [Nat.sub_mul]; omega
/-- What is left is no more than how many have something left over. -/
theorem left_some (hs : 0 < s) (hw : sumN w n = s) : t - sumN (fun i => t * w i / s) n ≤ (List.range n).countP fun i => decide (0 < t * w i % s) := by
  have h1 := rem_sum (t := t) hw
  have h2 : ∀ k, sumN (fun i => t * w i % s) k ≤ (List.range k).countP (fun i => decide (0 < t * w i % s)) * s := fun k => by
    induction k with
    | zero => simp [sumN]
    | succ k ih =>
      rw [sumN_step, List.range_succ, List.countP_append, Nat.add_mul]
      have h3 := Nat.mod_lt (t * w k) hs
      by_cases h4 : 0 < t * w k % s
      · simp [h4]; omega
      · simp [h4]; omega
  have h3 := h2 n
  rw [← h1] at h3
  exact Nat.le_of_mul_le_mul_right h3 hs
theorem pt_zero (hs : 0 < s) (hw : sumN w n = s) {i : Nat} (hi : i < n) (h0 : w i = 0) : ptN t s n w i = 0 := by
  unfold ptN
  have h1 := left_some (t := t) hs hw
  have h2 : (List.range n).countP (fun j => decide (0 < t * w j % s)) ≤ ahead (cS t s (fun i => (w i : Int)) (fun i => ((t * w i / s : Nat) : Int))) n i := by
    unfold ahead
    refine countP_le_of fun j hj h => ?_
    refine decide_eq_true ?_
    rw [cS_key t s w _ (fun _ => rfl) _ _ (fun _ => rfl) (fun _ => rfl)]
    have := of_decide_eq_true h
    rw [h0]; simp; omega
  rw [if_neg (by omega), h0]; simp
theorem pt_mono {i j : Nat} (hi : i < n) (hj : j < n) (h : w j < w i) : ptN t s n w j ≤ ptN t s n w i := by
  have hm : t * w j ≤ t * w i := Nat.mul_le_mul_left _ (by omega)
  have hd : t * w j / s ≤ t * w i / s := Nat.div_le_div_right hm
  unfold ptN
  by_cases he : t * w j / s = t * w i / s
  · have h3 : ahead (cS t s (fun i => (w i : Int)) (fun i => ((t * w i / s : Nat) : Int))) n j < t - sumN (fun i => t * w i / s) n → ahead (cS t s (fun i => (w i : Int)) (fun i => ((t * w i / s : Nat) : Int))) n i < t - sumN (fun i => t * w i / s) n := fun hl => by
      have ht : 0 < t := by omega
      have hlt : t * w j < t * w i := Nat.mul_lt_mul_of_pos_left h ht
      have e1 := Nat.div_add_mod' (t * w i) s
      have e2 := Nat.div_add_mod' (t * w j) s
      rw [he] at e2
      have hle : ahead (cS t s (fun i => (w i : Int)) (fun i => ((t * w i / s : Nat) : Int))) n i ≤ ahead (cS t s (fun i => (w i : Int)) (fun i => ((t * w i / s : Nat) : Int))) n j := by
        unfold ahead
        refine countP_le_of fun k hk h => decide_eq_true ?_
        have h' := of_decide_eq_true h
        rw [cS_key t s w _ (fun _ => rfl) _ _ (fun _ => rfl) (fun _ => rfl)] at h' ⊢
        omega
      omega
    split
    · rename_i h4; rw [if_pos (h3 h4)]; omega
    · omega
  · have h1 : t * w j / s + 1 ≤ t * w i / s := by omega
    split <;> omega
theorem pt_sum (hs : 0 < s) (hw : sumN w n = s) : sumN (ptN t s n w) n = t := by
  obtain ⟨h1, h2⟩ := left_le (t := t) hs hw
  have h3 := ahead_count (cS_cmpN t s n w) h2
  have key : ∀ (L k : Nat), sumN (fun i => t * w i / s + if ahead (cS t s (fun i => (w i : Int)) (fun i => ((t * w i / s : Nat) : Int))) n i < L then 1 else 0) k = sumN (fun i => t * w i / s) k + (List.range k).countP (fun (i : Nat) => decide (ahead (cS t s (fun i => (w i : Int)) (fun i => ((t * w i / s : Nat) : Int))) n i < L)) := fun L k => by
    induction k with
    | zero => simp [sumN]
    | succ k ih =>
      rw [sumN_step, sumN_step, ih, List.range_succ, List.countP_append]
      by_cases h : ahead (cS t s (fun i => (w i : Int)) (fun i => ((t * w i / s : Nat) : Int))) n k < L
      · simp [h]; omega
      · simp [h]; omega
  show sumN (fun i => t * w i / s + if ahead _ n i < _ then 1 else 0) n = t
  rw [key, h3]; omega
end
theorem sum_map_nat : ∀ (f : Nat → Nat) (n : Nat), ((List.range n).map fun i => (f i : Int)).sum = (sumN f n : Nat)
  | f, 0 => rfl
  | f, n + 1 => by
    rw [List.range_succ, List.map_append, List.sum_append, sum_map_nat f n, sumN_step]; simp
structure Whole (T : Int) (ws l : List Int) : Prop where
  T0 : 0 ≤ T
  len : l.length = ws.length
  pos : ∀ i (h : i < l.length), 0 ≤ l[i]
  zero : ∀ i (h : i < l.length) (h' : i < ws.length), ws[i] = 0 → l[i] = 0
  mono : ∀ i j (hi : i < l.length) (hj : j < l.length) (hi' : i < ws.length) (hj' : j < ws.length), ws[j] < ws[i] → l[j] ≤ l[i]
  sum : l.sum = T
theorem whole {T : Int} {ws : List Int} (h : spE T ws = 0) : Whole T ws (spS T ws) := by
  obtain ⟨t, s, w, ha⟩ := asked h
  have hl := spS_pt h ha
  have hn : (spS T ws).length = ws.length := by rw [hl]; simp
  have hat : ∀ i (hi : i < (spS T ws).length), (spS T ws)[i] = (ptN t s ws.length w i : Nat) := fun i hi => by simp [hl]
  have hwi : ∀ i (hi : i < ws.length), ws[i] = (w i : Int) := fun i hi => by rw [← ha.w_ i]; unfold spW; rw [List.getElem?_eq_getElem hi]; rfl
  refine ⟨by rw [ha.t_]; omega, hn, fun i hi => by rw [hat i hi]; omega, fun i hi hi' h0 => ?_, fun i j hi hj hi' hj' hlt => ?_, ?_⟩
  · rw [hat i hi, pt_zero (i := i) ha.s0 ha.sw hi' (by have := hwi i hi'; omega)]; rfl
  · rw [hat i hi, hat j hj]
    have := pt_mono (t := t) (s := s) (n := ws.length) (w := w) hi' hj' (by have := hwi i hi'; have := hwi j hj'; omega)
    omega
  · rw [hl, sum_map_nat, pt_sum ha.s0 ha.sw, ha.t_]
end Go.Proofs.Ytfbpcjkhgiickaa.Pay
