/- What stands where in a sorted row; a clone of a row of one's own. No statement of the seed is proved here. -/
import Derived.Test.YtfbpcjkhgiickaaSpL
namespace Go.Proofs.Ytfbpcjkhgiickaa.Pay
open Go Go.RowKit
set_option linter.unusedVariables false
set_option linter.unusedSimpArgs false
set_option linter.unusedSectionVars false

theorem nodup_len : ∀ (m : Nat) (l : List Nat), l.Nodup → (∀ x ∈ l, x < m) → l.length ≤ m
  | 0, l, _, h => by
    cases l with
    | nil => simp
    | cons x l => have := h x (by simp); omega
  | m + 1, l, hn, h => by
    by_cases hm : m ∈ l
    · have h1 := nodup_len m (l.erase m) (hn.erase m) fun x hx => by
        have := (List.Nodup.mem_erase_iff hn).1 hx
        have := h x this.2
        omega
      rw [List.length_erase_of_mem hm] at h1
      omega
    · have h1 := nodup_len m l hn fun x hx => by
        have := h x hx
        have : x ≠ m := fun e => hm (e ▸ hx)
        omega
      omega
/-- Unlike places below n are all places below n. -/
theorem onto {n : Nat} {f : Nat → Nat} (h1 : ∀ i, i < n → f i < n) (h2 : ∀ i j, i < n → j < n → f i = f j → i = j) : ((List.range n).map f).Perm (List.range n) := by
  have hnd : ((List.range n).map f).Nodup := by
    rw [List.nodup_iff_pairwise_ne, List.pairwise_map]
    refine (List.nodup_iff_pairwise_ne.1 List.nodup_range).imp_of_mem fun {a b} ha hb hab he => hab (h2 a b (by simpa using ha) (by simpa using hb) he)
  have hlt : ∀ x ∈ (List.range n).map f, x < n := fun x hx => by
    obtain ⟨i, hi, rfl⟩ := List.mem_map.1 hx
    exact h1 i (by simpa using hi)
  rw [List.perm_ext_iff_of_nodup hnd List.nodup_range]
  intro a
  constructor
  · intro ha; simpa using hlt a ha
  · intro ha
    have han : a < n := by simpa using ha
    apply Classical.byContradiction
    intro hno
    have := nodup_len n (a :: (List.range n).map f) (List.nodup_cons.2 ⟨hno, hnd⟩) fun x hx => by
      rcases List.mem_cons.1 hx with rfl | hx
      · exact han
      · exact hlt x hx
    simp at this
    omega
theorem countP_lt (n p : Nat) (h : p ≤ n) : (List.range n).countP (fun q => decide (q < p)) = p := by
  induction n generalizing p with
  | zero => simp; omega
  | succ n ih =>
    rw [List.range_succ, List.countP_append]
    by_cases hp : p ≤ n
    · rw [ih p hp]
      simp; omega
    · have : p = n + 1 := by omega
      subst this
      have : (List.range n).countP (fun q => decide (q < n + 1)) = (List.range n).length := by
        rw [List.countP_eq_length]
        intro a ha
        have := List.mem_range.1 ha
        simp; omega
      rw [this]; simp
theorem countP_one (p : Nat) : ∀ l, (List.range l).countP (fun q => q == p) = if p < l then 1 else 0
  | 0 => by simp
  | l + 1 => by
    rw [List.range_succ, List.countP_append, countP_one p l]
    by_cases h1 : p < l
    · have : ¬ l = p := by omega
      rw [if_pos h1, if_pos (by omega)]; simp [this]
    · by_cases h2 : l = p
      · subst h2; simp
      · rw [if_neg h1, if_neg (by omega)]; simp [h2]
section
variable {c : Int → Int → Int} {n : Nat} {h : Nat → Int}
/-- How many are ahead of one. -/
def ahead (c : Int → Int → Int) (n : Nat) (i : Int) : Nat := (List.range n).countP fun (j : Nat) => decide (c (j : Int) i < 0)
theorem rank (hc : Cmp c (okS n)) (m : Mv 0 n (fun i => (i : Int)) h) (s : Srtd c h 0 n) : (∀ p, p < n → 0 ≤ h p ∧ h p < n) ∧ (∀ p q, p < n → q < n → h p = h q → p = q) ∧ (∀ p, p < n → ahead c n (h p) = p) ∧ ∀ i, i < n → ∃ p, p < n ∧ h p = (i : Int) := by
  have hin : ∀ p, p < n → 0 ≤ h p ∧ h p < n := fun p hp => by
    obtain ⟨j, _, j2, e⟩ := m.src p (by omega) hp
    rw [e]; omega
  have hinj : ∀ p q, p < n → q < n → h p = h q → p = q := fun p q hp hq e => m.inj (fun i j _ _ _ _ e => by omega) p q (by omega) hp (by omega) hq e
  have hperm := onto (n := n) (f := fun p => (h p).toNat) (fun i hi => by have := hin i hi; omega) (fun i j hi hj e => hinj i j hi hj (by have := hin i hi; have := hin j hj; omega))
  have hlt : ∀ p q, p < n → q < n → (c (h p) (h q) < 0 ↔ p < q) := fun p q hp hq => by
    have op : okS n (h p) := hin p hp
    have oq : okS n (h q) := hin q hq
    constructor
    · intro hl
      rcases Nat.lt_trichotomy p q with h1 | h1 | h1
      · exact h1
      · subst h1; exact absurd hl (hc.asym _ _ op oq hl)
      · exact absurd hl (s q p (by omega) h1 hp)
    · intro hpq
      rcases hc.tot (h p) (h q) op oq (fun e => by have := hinj p q hp hq e; omega) with h1 | h1
      · exact h1
      · exact absurd h1 (s p q (by omega) hpq hq)
  refine ⟨hin, hinj, fun p hp => ?_, fun i hi => ?_⟩
  · unfold ahead
    rw [← hperm.countP_eq, List.countP_map]
    rw [show (List.range n).countP ((fun j : Nat => decide (c (j : Int) (h p) < 0)) ∘ fun q => (h q).toNat) = (List.range n).countP fun q => decide (q < p) from List.countP_congr fun q hq => by
      have hqn : q < n := List.mem_range.1 hq
      have e : ((h q).toNat : Int) = h q := by have := hin q hqn; omega
      simp only [Function.comp, e, decide_eq_true_eq]
      exact hlt q p hqn hp]
    exact countP_lt n p (by omega)
  · have := (hperm.mem_iff (a := i)).2 (List.mem_range.2 hi)
    obtain ⟨p, hp, e⟩ := List.mem_map.1 this
    have hpn : p < n := List.mem_range.1 hp
    exact ⟨p, hpn, by have := hin p hpn; omega⟩
/-- Those ahead of place l have one more. -/
def incF (pf : Nat → Int) (h : Nat → Int) (k : Nat) : Nat → Int := fun i => pf i + ((List.range k).countP fun p => decide (h p = (i : Int)) : Nat)
theorem incF_step (pf : Nat → Int) {h : Nat → Int} {k : Nat} (hk : 0 ≤ h k) : upd (incF pf h k) (h k).toNat (incF pf h k (h k).toNat + 1) = incF pf h (k + 1) := by
  funext i
  unfold upd incF
  rw [List.range_succ, List.countP_append]
  by_cases e : i = (h k).toNat
  · rw [if_pos e, ← e]
    have : h k = (i : Int) := by omega
    simp [this]; omega
  · rw [if_neg e]
    have : ¬ h k = (i : Int) := by omega
    simp [this]
theorem incF_end (pf : Nat → Int) (hc : Cmp c (okS n)) (m : Mv 0 n (fun i => (i : Int)) h) (s : Srtd c h 0 n) {l : Nat} (hl : l ≤ n) {i : Nat} (hi : i < n) : incF pf h l i = pf i + if ahead c n i < l then 1 else 0 := by
  obtain ⟨hin, hinj, hr, hs⟩ := rank hc m s
  obtain ⟨p, hp, hpi⟩ := hs i hi
  unfold incF
  rw [← hpi, hr p hp]
  congr 1
  have : (List.range l).countP (fun q => decide (h q = h p)) = (List.range l).countP fun q => q == p := List.countP_congr fun q hq => by
    have hql : q < l := List.mem_range.1 hq
    simp only [decide_eq_true_eq, beq_iff_eq]
    exact ⟨fun e => hinj q p (by omega) hp e, fun e => by rw [e]⟩
  rw [this, countP_one]
  split <;> rfl
end

section
variable {P : Program} {T : Nat → Option TI} {s s' : St} {all : Array Oper} {o : Oper} {rest : List Oper} {Q : Exit → St → Prop}
/-- A row of one's own against nil. -/
theorem WpO.nilSl (hT : TabOk P T) {t ty : TypeId} {k e id n e' : Nat} {xs : List D} {x : Operand} {i : TI} (hw : wantS all s o = some true) (ho : o.op = .binOp .eql t x (.const (.slice none 0 0)) ty) (hi : T t = some i) (hk : i.kind = .slice e) (hx : evX s x = some (.sl id n)) (hS : s.S[id]? = some (.arr e' k xs)) (hn : n ≤ xs.length)
    (h : ∀ b : Bool, (b = true → xs.take n = []) → ∃ s1, setS s o.dst (.d (.bool b)) = some s1 ∧ WpO P all rest s1 Q) : WpO P all (o :: rest) s Q := fun w I L a hs => by
  have ht := (hT _ _ hi).kind
  rw [hk] at ht
  simp only [TKOk] at ht
  have hv := arr_list hs hS hn (hs.evX hx)
  simp only [DRel] at hv
  obtain ⟨base, c, hv, hle, hd⟩ := hv
  obtain ⟨s1, hset, hk'⟩ := h base.isNone (fun hb => by
    rcases hd with hd | ⟨b, off, vs, hd, _⟩
    · exact hd
    · subst hd; cases hb)
  unfold wpList
  rw [if_pos (hs.want hw)]
  refine .inl ?_
  have hrun : (execOp a.eval o).run P w = .ok (.value (.bool base.isNone)) w := by
    unfold execOp
    have hc : a.eval (Operand.const (.slice none 0 0)) = .slice none 0 0 := rfl
    simp only [ho, hv, hc, eqGuard_at_slice, Sem.run_bind, Sem.run_pure, Result.andThen_ok, run_slice_nil ht]
  unfold Oper.wp
  rw [hrun]
  obtain ⟨e1, e2, e3⟩ := hs.put (v := .bool base.isNone) (by simp only [VRel, DRel]) hset
  have := hk' w I L _ e1
  refine wpList_mono (fun e a' w' p => p.from ⟨?_, e3, fun _ _ => rfl⟩) _ _ _ this
  rw [e2]; exact Evo.refl _ _ _
end
theorem cloneOwn_ok (xs : List D) (n : Nat) (hn : xs.length = n) (hl : n ≤ 1000000000) : WpF Try.prog 18 [.sl 0 n] [.arr 3 1 xs] fun r S => r = .sl 1 n ∧ S = [.arr 3 1 xs, .arr 3 1 xs] := by
  have hsm : n ≤ 8589934592 := by omega
  refine WpF.enter tabOk Try.func18 rfl (by show 1 ≤ 8; decide) ?_
  simp only [Try.f18]
  refine WpC.seq (WpC.ops tabOk (r := []) (by simp -implicitDefEqProofs [hn, hsm] <;> rfl) rfl ?_)
  refine WpC.seq ?_
  refine WpC.seq ?_
  refine WpC.region ?_
  refine WpO.run tabOk 1 (by simp <;> first | exact ⟨rfl, rfl⟩ | rfl) ?_
  refine WpO.nilSl (id := 0) (n := n) (k := 1) (xs := xs) (e' := 3) tabOk (by simp) rfl (by simp; rfl) rfl (by simp) (by simp) (by omega) fun b hb => ⟨_, by simp; rfl, WpO.nil ?_⟩
  refine WpC.condR (by simp -implicitDefEqProofs [hn, hsm] <;> rfl) (by rfl) (fun c4 => ?_) (fun c4 => ?_)
  · have c4' := c4; first | simp only [dT, dF] at c4' | try simp at c4'
    refine WpC.seq (WpC.ops tabOk (r := []) (by simp -implicitDefEqProofs [hn, hsm, c4] <;> rfl) rfl ?_)
    have h0 := hb c4
    rw [List.take_of_length_le (by omega)] at h0
    subst h0
    simp at hn
    subst hn
    refine WpC.gh (Gh.nilArr 3 1 (t := 2) (by simp) (by simp)) ?_
    refine WpC.ret ?_
    simp
  · have c4' := c4; first | simp only [dT, dF] at c4' | try simp at c4'
    refine WpC.skip ?_
    refine WpC.seq (WpC.ops tabOk (r := []) (by simp -implicitDefEqProofs [hn, hsm, c4] <;> rfl) rfl ?_)
    refine WpC.gh (Gh.pick [2] [0, 2] (by simp; rfl) (env' := [(2, .sl 1 n)]) (by simp) (by simp) (by simp) (by simp; rfl) (S' := [.arr 3 1 xs, .arr 3 1 xs]) (by simp [hn]) (by simp)) (WpC.ret ?_)
    simp
end Go.Proofs.Ytfbpcjkhgiickaa.Pay
