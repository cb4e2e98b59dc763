/- Variables that are written no more are lent to a closure for good. No statement of the seed is proved here. -/
import Derived.Test.YtfbpcjkhgiickaaSpK
namespace Go.Proofs.Ytfbpcjkhgiickaa.Pay
open Go Go.RowKit
set_option linter.unusedVariables false
set_option linter.unusedSimpArgs false
set_option linter.unusedSectionVars false

/-- Only the objects of K (b), or only the others. -/
def maskO (K : List Nat) (b : Bool) : Nat → List Ob → List Ob
  | _, [] => []
  | i, o :: r => (if decide (i ∈ K) = b then o else .gone) :: maskO K b (i + 1) r
theorem maskO_get {K : List Nat} {b : Bool} : ∀ {i : Nat} {S : List Ob} {j : Nat}, (maskO K b i S)[j]? = (S[j]?).map fun o => if decide (i + j ∈ K) = b then o else .gone
  | i, [], j => by simp [maskO]
  | i, o :: r, 0 => by simp [maskO]
  | i, o :: r, j + 1 => by
    simp only [maskO, List.getElem?_cons_succ]
    rw [maskO_get, show i + 1 + j = i + (j + 1) from by omega]
theorem maskO_len {K : List Nat} {b : Bool} : ∀ {i : Nat} {S : List Ob}, (maskO K b i S).length = S.length
  | _, [] => rfl
  | i, o :: r => by simp [maskO, maskO_len]
section
variable {w : World} {I : Nat → Prop} {L : List Lay} {s : St} {a : Act}
theorem own_gone (l : Lay) : own .gone l = [] := by cases l <;> rfl
theorem mask_own {K : List Nat} {b : Bool} {S : List Ob} {x : Nat} (h : x ∈ owns (maskO K b 0 S) L) : ∃ (j : Nat) (o : Ob) (l : Lay), S[j]? = some o ∧ L[j]? = some l ∧ x ∈ own o l ∧ decide (j ∈ K) = b := by
  obtain ⟨j, c, l, h1, h2, h3⟩ := owns_of_mem h
  rw [maskO_get, Nat.zero_add, Option.map_eq_some_iff] at h1
  obtain ⟨o, ho, rfl⟩ := h1
  by_cases hb : decide (j ∈ K) = b
  · rw [if_pos hb] at h3; exact ⟨j, o, l, ho, h2, h3, hb⟩
  · rw [if_neg hb, own_gone] at h3; simp at h3
theorem mask_nodup (hs : SR w I L s a) (K : List Nat) (b : Bool) : (owns (maskO K b 0 s.S) L).Nodup := by
  refine owns_nodup fun j j' c c' l l' hne h1 h2 h3 h4 x hx hx' => ?_
  rw [maskO_get, Nat.zero_add, Option.map_eq_some_iff] at h1 h3
  obtain ⟨o, ho, rfl⟩ := h1
  obtain ⟨o', ho', rfl⟩ := h3
  by_cases hb : decide (j ∈ K) = b
  · rw [if_pos hb] at hx
    by_cases hb' : decide (j' ∈ K) = b
    · rw [if_pos hb'] at hx'
      exact owns_apart hs.nodup ho h2 ho' h4 hne x hx hx'
    · rw [if_neg hb', own_gone] at hx'; simp at hx'
  · rw [if_neg hb, own_gone] at hx; simp at hx
/-- The objects of K are written no more; slots that lead there are taken for what they show. -/
theorem Gh.frzO (K : List Nat) (ups : List (Nat × FV)) (hu : ∀ p ∈ ups, ∃ x, get s.env p.1 = some x ∧ viewF true (maskO K true 0 s.S) x = some p.2) : Gh s { s with env := ups ++ s.env, S := maskO K false 0 s.S } := fun w I L a hs => by
  have hs1 : SR w I L { s with S := maskO K true 0 s.S } a := by
    refine ⟨hs.env, hs.nt, by show L.length = (maskO K true 0 s.S).length; rw [maskO_len]; exact hs.len, fun i ob l h1 h2 => ?_, mask_nodup hs K true, fun x hx => ?_, hs.imm, hs.defers⟩
    · have h1' : (maskO K true 0 s.S)[i]? = some ob := h1
      rw [maskO_get, Option.map_eq_some_iff] at h1'
      obtain ⟨o, ho, rfl⟩ := h1'
      split
      · exact hs.obs i o l ho h2
      · trivial
    · obtain ⟨j, o, l, h1, h2, h3, _⟩ := mask_own hx
      exact hs.sep x (owns_mem h1 h2 x h3)
  have hI : ∀ b, I b → lentI I (maskO K true 0 s.S) L b := fun b hb => .inl hb
  refine ⟨lentI I (maskO K true 0 s.S) L, L, ⟨fun t x hx => ?_, hs.nt, ?_, fun i ob l h1 h2 => ?_, mask_nodup hs K false, fun x hx => ?_, fun b hb => ?_, hs.defers⟩, ⟨⟨rfl, rfl, rfl, Nat.le_refl _, fun _ _ _ => rfl, hI, fun b hb => ?_, fun b hb => .inl ?_⟩, rfl, fun _ _ => rfl⟩⟩
  · have key : ∀ (us : List (Nat × FV)), (∀ p ∈ us, ∃ x, get s.env p.1 = some x ∧ viewF true (maskO K true 0 s.S) x = some p.2) → get (us ++ s.env) t = some x → VRel w (lentI I (maskO K true 0 s.S) L) L x (a.tmps.getD t undef) := by
      intro us
      induction us with
      | nil => intro _ h; exact VRel.mono (fun _ _ => rfl) hI (fun _ _ h => h) _ _ (hs.env t x h)
      | cons p us ih =>
        intro hp h
        obtain ⟨k, y⟩ := p
        simp only [List.cons_append, get] at h
        by_cases hk : k = t
        · rw [if_pos hk] at h; cases h; subst hk
          obtain ⟨z, hz, hv⟩ := hp _ List.mem_cons_self
          exact viewL_ok hs1 L (hs.env _ z hz) hv
        · rw [if_neg hk] at h
          exact ih (fun q hq => hp q (List.mem_cons_of_mem _ hq)) h
    exact key ups hu hx
  · have := hs.len
    simpa [maskO_len] using this
  · have h1' : (maskO K false 0 s.S)[i]? = some ob := h1
    rw [maskO_get, Option.map_eq_some_iff] at h1'
    obtain ⟨o, ho, rfl⟩ := h1'
    split
    · exact ORel.mono (fun _ _ => rfl) hI (fun _ _ h => h) (fun _ _ => rfl) (hs.obs i o l ho h2)
    · trivial
  · obtain ⟨j, o, l, h1, h2, h3, hj⟩ := mask_own hx
    have hsx := hs.sep x (owns_mem h1 h2 x h3)
    refine ⟨fun q => ?_, hsx.2⟩
    rcases q with q | q
    · exact hsx.1 q
    · obtain ⟨j', o', l', g1, g2, g3, hj'⟩ := mask_own q
      have hne : j ≠ j' := fun e => by rw [e, hj'] at hj; cases hj
      exact owns_apart hs.nodup h1 h2 g1 g2 hne x h3 g3
  · rcases hb with hb | hb
    · exact hs.imm b hb
    · obtain ⟨j, o, l, h1, h2, h3, _⟩ := mask_own hb
      exact (hs.sep b (owns_mem h1 h2 b h3)).2
  · rcases hb with hb | hb
    · exact .inl hb
    · obtain ⟨j, o, l, h1, h2, h3, _⟩ := mask_own hb
      exact .inr (.inl (owns_mem h1 h2 b h3))
  · obtain ⟨j, o, l, h1, h2, h3, _⟩ := mask_own hb
    exact owns_mem h1 h2 b h3
end
end Go.Proofs.Ytfbpcjkhgiickaa.Pay
