/- Counting loops; what is let go at a loop's head. No statement of the seed is proved here. -/
import Derived.Test.YtjlamhilnkadcaaGreatDoorPayM
namespace Go.Proofs.YtjlamhilnkadcaaGreatDoor.Pay
open Go Go.RowKit
set_option linter.unusedVariables false
set_option linter.unusedSimpArgs false

mutual
/-- All objects that a value names stand below n. -/
def below (n : Nat) : FV → Bool
  | .d _ => true
  | .ref id _ => decide (id < n)
  | .sl id _ => decide (id < n)
  | .er id _ _ _ => decide (id < n)
  | .dp _ => true
  | .agg cs => belows n cs
  | .fn _ cs => belows n cs
  | .tup cs => belows n cs
  | .mp id => decide (id < n)
  | .so id _ _ _ => decide (id < n)
  | .sc id _ _ => decide (id < n)
  | .dead => true
def belows (n : Nat) : List FV → Bool
  | [] => true
  | x :: r => below n x && belows n r
end
def belowE (n : Nat) : List (Nat × FV) → Bool
  | [] => true
  | (_, x) :: r => below n x && belowE n r
def belowO (n : Nat) : Ob → Bool
  | .cells _ cs => belows n cs
  | _ => true
def belowS (n : Nat) : List Ob → Bool
  | [] => true
  | o :: r => belowO n o && belowS n r

mutual
theorem ren_below {σ : Nat → Nat} {n : Nat} (h : ∀ i, i < n → σ i = i) : ∀ {x : FV}, below n x = true → ren σ x = x
  | .d _, _ => by simp [ren]
  | .ref id _, hx => by simp [below] at hx; simp [ren, h id hx]
  | .sl id _, hx => by simp [below] at hx; simp [ren, h id hx]
  | .er id _ _ _, hx => by simp [below] at hx; simp [ren, h id hx]
  | .dp _, _ => by simp [ren]
  | .agg cs, hx => by simp only [below] at hx; simp [ren, rens_below h hx]
  | .fn _ cs, hx => by simp only [below] at hx; simp [ren, rens_below h hx]
  | .tup cs, hx => by simp only [below] at hx; simp [ren, rens_below h hx]
  | .mp id, hx => by simp [below] at hx; simp [ren, h id hx]
  | .so id _ _ _, hx => by simp [below] at hx; simp [ren, h id hx]
  | .sc id _ _, hx => by simp [below] at hx; simp [ren, h id hx]
  | .dead, _ => by simp [ren]
theorem rens_below {σ : Nat → Nat} {n : Nat} (h : ∀ i, i < n → σ i = i) : ∀ {xs : List FV}, belows n xs = true → rens σ xs = xs
  | [], _ => by simp [rens]
  | x :: r, hx => by simp only [belows, Bool.and_eq_true] at hx; simp [rens, ren_below h hx.1, rens_below h hx.2]
end
theorem belowE_get {n : Nat} : ∀ {e : List (Nat × FV)} {t : Nat} {x : FV}, belowE n e = true → get e t = some x → below n x = true
  | [], t, x, _, h => by simp [get] at h
  | (k, y) :: r, t, x, hb, h => by
    simp only [belowE, Bool.and_eq_true] at hb
    simp only [get] at h
    by_cases hk : k = t
    · rw [if_pos hk] at h; cases h; exact hb.1
    · rw [if_neg hk] at h; exact belowE_get hb.2 h
theorem belowS_get {n : Nat} : ∀ {S : List Ob} {j : Nat} {o : Ob}, belowS n S = true → S[j]? = some o → belowO n o = true
  | [], j, o, _, h => by simp at h
  | x :: r, 0, o, hb, h => by simp only [belowS, Bool.and_eq_true] at hb; simp at h; exact h ▸ hb.1
  | x :: r, j + 1, o, hb, h => by simp only [belowS, Bool.and_eq_true] at hb; exact belowS_get hb.2 (by simpa using h)

section
variable {P : Program} {T : Nat → Option TI} {w w' : World} {I I' : Nat → Prop} {L L' : List Lay} {s s' s1 : St} {a : Act} {all : Array Oper} {o : Oper} {rest : List Oper} {Q : Exit → St → Prop} {c : Code}

/-- Slots are let go, and the objects from n on. -/
theorem Gh.cut (ks : List Nat) (S1 S2 : List Ob) {env : List (Nat × FV)} (he : keepE s.env ks = some env) (hS : s.S = S1 ++ S2) (h1 : belowE S1.length env = true) (h2 : belowS S1.length S1 = true) (hp : s.pin ≤ S1.length) :
    Gh s { s with env := env, S := S1 } := by
  have hσ : ∀ i, i < S1.length → σ0 s.S.length (List.range S1.length) i = i := by
    intro i hi
    simp [σ0, List.getD, List.getElem?_range hi]
  refine Gh.renum (List.range S1.length) List.nodup_range (fun i hi => by rw [hS]; simp at hi ⊢; omega) (fun t x hx => ?_) ⟨by simp, fun j i c h3 h4 => ?_⟩ (fun i hi => List.getElem?_range (by omega))
  · rw [ren_below hσ (belowE_get h1 hx)]; exact keepE_get he t x hx
  · have hj : j < S1.length := by simpa using (List.getElem?_eq_some_iff.1 h3).1
    rw [List.getElem?_range hj] at h3
    cases h3
    have hc : renO (σ0 s.S.length (List.range S1.length)) c = c := by
      have := belowS_get h2 h4
      cases c <;> simp only [renO, belowO] at this ⊢
      rw [rens_below hσ this]
    rw [hc, hS, List.getElem?_append_left hj]
    exact h4

/-- The same, at a state that is spelt. -/
theorem Gh.cut' (ks : List Nat) (n : Nat) {env env' : List (Nat × FV)} {S S1 : List Ob} {nt pin : Nat} (he : keepE env ks = some env') (hS : S.take n = S1) (hn : S1.length = n) (h1 : belowE n env' = true) (h2 : belowS n S1 = true) (hp : pin ≤ n) :
    Gh ⟨env, S, nt, pin⟩ ⟨env', S1, nt, pin⟩ := by
  have := Gh.cut (s := ⟨env, S, nt, pin⟩) ks S1 (S.drop n) (env := env') he (by rw [← hS]; simp) (by rw [hn]; exact h1) (by rw [hn]; exact h2) (by rw [hn]; exact hp)
  exact this

def renE (σ : Nat → Nat) : List (Nat × FV) → List (Nat × FV)
  | [] => []
  | (t, x) :: r => (t, ren σ x) :: renE σ r
theorem get_renE {σ : Nat → Nat} : ∀ {e : List (Nat × FV)} {t : Nat} {x : FV}, get e t = some x → get (renE σ e) t = some (ren σ x)
  | [], t, x, h => by simp [get] at h
  | (k, y) :: r, t, x, h => by
    simp only [get, renE] at h ⊢
    by_cases hk : k = t
    · rw [if_pos hk] at h ⊢; cases h; rfl
    · rw [if_neg hk] at h ⊢; exact get_renE h
def pickS (S : List Ob) : List Nat → Option (List Ob)
  | [] => some []
  | i :: r => (S[i]?).bind fun o => (pickS S r).map (o :: ·)
theorem pickS_get {S : List Ob} : ∀ {p : List Nat} {S1 : List Ob}, pickS S p = some S1 → S1.length = p.length ∧ ∀ (j i : Nat) (o : Ob), p[j]? = some i → S1[j]? = some o → S[i]? = some o
  | [], S1, h => by simp [pickS] at h; subst h; simp
  | i :: r, S1, h => by
    simp only [pickS, Option.bind_eq_some_iff, Option.map_eq_some_iff] at h
    obtain ⟨o, ho, q, hq, rfl⟩ := h
    obtain ⟨h1, h2⟩ := pickS_get hq
    refine ⟨by simp [h1], fun j i' o' hj ho' => ?_⟩
    cases j with
    | zero => simp at hj ho'; subst hj; subst ho'; exact ho
    | succ j => exact h2 j i' o' (by simpa using hj) (by simpa using ho')
theorem renOs_at {σ : Nat → Nat} : ∀ {S : List Ob} {j : Nat} {o : Ob}, S[j]? = some o → (renOs σ S)[j]? = some (renO σ o)
  | [], j, o, h => by simp at h
  | x :: r, 0, o, h => by simp at h; subst h; simp [renOs]
  | x :: r, j + 1, o, h => by simp only [renOs, List.getElem?_cons_succ]; exact renOs_at (by simpa using h)
theorem renOs_len {σ : Nat → Nat} : ∀ {S : List Ob}, (renOs σ S).length = S.length
  | [] => rfl
  | x :: r => by simp [renOs, renOs_len]

/-- Slots ks and objects perm are kept, in that order; at a state that is spelt. -/
theorem Gh.pick (ks perm : List Nat) {env env1 env' : List (Nat × FV)} {S S1 S' : List Ob} {nt pin : Nat} (he : keepE env ks = some env1) (h1 : renE (σ0 S.length perm) env' = env1) (hn : perm.Nodup) (hlt : ∀ i ∈ perm, i < S.length)
    (hS : pickS S perm = some S1) (h2 : renOs (σ0 S.length perm) S' = S1) (hp : ∀ i, i < pin → perm[i]? = some i) : Gh ⟨env, S, nt, pin⟩ ⟨env', S', nt, pin⟩ := by
  obtain ⟨h3, h4⟩ := pickS_get hS
  refine Gh.renum (s := ⟨env, S, nt, pin⟩) perm hn hlt (fun t x hx => ?_) ⟨?_, fun j i c hj hc => ?_⟩ hp
  · have := get_renE (σ := σ0 S.length perm) hx
    rw [h1] at this
    exact keepE_get he _ _ this
  · rw [← h3, ← h2, renOs_len]
  · refine h4 j i _ hj ?_
    rw [← h2]
    exact renOs_at hc

theorem Gh.same (h : s = s') : Gh s s' := h ▸ Gh.refl s

/-- A loop that counts up to n: st k is the state at its head before round k. -/
theorem WpC.count (n : Nat) (st : Nat → St) (h0 : Gh s (st 0))
    (hr : ∀ k, k ≤ n → WpC P c (st k) (fun e s' => match e with | .normal => k < n ∧ Gh s' (st (k + 1)) | e => Q e s')) : WpC P (.loop c) s Q :=
  WpC.gh h0 (WpC.loop (fun m s => ∃ k, k + m = n ∧ s = st k) n ⟨0, by omega, rfl⟩ fun m s1 ⟨k, hk, he⟩ => by
    subst he
    refine WpC.post (hr k (by omega)) fun e s1 h => ?_
    cases e with
    | normal => exact ⟨_, h.2, m - 1, by omega, k + 1, by omega, rfl⟩
    | _ => exact ⟨_, Gh.refl _, h⟩)

/-- A loop that counts up to n, with what holds at its head before round k. -/
theorem WpC.countP (n : Nat) (J : Nat → St → Prop) (h0 : ∃ s0, Gh s s0 ∧ J 0 s0)
    (hr : ∀ k s, k ≤ n → J k s → WpC P c s (fun e s' => match e with | .normal => k < n ∧ ∃ s1, Gh s' s1 ∧ J (k + 1) s1 | e => Q e s')) : WpC P (.loop c) s Q := by
  obtain ⟨s0, g0, j0⟩ := h0
  refine WpC.gh g0 (WpC.loop (fun m s => ∃ k, k + m = n ∧ J k s) n ⟨0, by omega, j0⟩ fun m s1 ⟨k, hk, hj⟩ => ?_)
  refine WpC.post (hr k s1 (by omega) hj) fun e s1 h => ?_
  cases e with
  | normal =>
    obtain ⟨h1, s2, h2, h3⟩ := h
    exact ⟨s2, h2, m - 1, by omega, k + 1, by omega, h3⟩
  | _ => exact ⟨_, Gh.refl _, h⟩

/-- A loop with what holds at its head, and a measure. -/
theorem WpC.while (J : Nat → St → Prop) (n : Nat) (h0 : ∃ s0, Gh s s0 ∧ J n s0)
    (hr : ∀ n s, J n s → WpC P c s (fun e s' => match e with | .normal => ∃ m, m < n ∧ ∃ s1, Gh s' s1 ∧ J m s1 | e => Q e s')) : WpC P (.loop c) s Q := by
  obtain ⟨s0, g0, j0⟩ := h0
  refine WpC.gh g0 (WpC.loop J n j0 fun m s1 hj => ?_)
  refine WpC.post (hr m s1 hj) fun e s1 h => ?_
  cases e with
  | normal =>
    obtain ⟨m', h1, s2, h2, h3⟩ := h
    exact ⟨s2, h2, m', h1, h3⟩
  | _ => exact ⟨_, Gh.refl _, h⟩
end

/-! ### Arithmetic that does not wrap; lists that are gone through -/

theorem wrapI {n : Int} (h1 : -9223372036854775808 ≤ n) (h2 : n ≤ 9223372036854775807) : IntKind.i64.wrap n = n := by
  simp [IntKind.wrap, IntKind.bits, IntKind.signed]
  omega
theorem wrapI_in (n : Int) : -9223372036854775808 ≤ IntKind.i64.wrap n ∧ IntKind.i64.wrap n ≤ 9223372036854775807 := by
  simp [IntKind.wrap, IntKind.bits, IntKind.signed]
  omega

/-- A number that an int holds. -/
def inI (n : Int) : Prop := -9223372036854775808 ≤ n ∧ n ≤ 9223372036854775807

theorem foldl_take {α β : Type} (f : β → α → β) (b : β) {l : List α} {k : Nat} (h : k < l.length) : (l.take (k + 1)).foldl f b = f ((l.take k).foldl f b) l[k] := by
  rw [List.take_add_one, List.getElem?_eq_getElem h]; simp only [Option.toList_some, List.foldl_append, List.foldl_cons, List.foldl_nil]
theorem map_take {α β : Type} (f : α → β) {l : List α} {k : Nat} (h : k < l.length) : (l.take (k + 1)).map f = (l.take k).map f ++ [f l[k]] := by
  rw [List.take_add_one, List.getElem?_eq_getElem h]; simp only [Option.toList_some, List.map_append, List.map_cons, List.map_nil]
theorem drop_cons {α : Type} {l : List α} {k : Nat} (h : k < l.length) : l.drop k = l[k] :: l.drop (k + 1) := List.drop_eq_getElem_cons h
end Go.Proofs.YtjlamhilnkadcaaGreatDoor.Pay
