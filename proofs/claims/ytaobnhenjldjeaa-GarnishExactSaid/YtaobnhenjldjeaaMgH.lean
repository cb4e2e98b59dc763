/- The texts BgA, BgB, BgC, one behind the other. No statement of the seed is proved here. -/
import Derived.Test.YtaobnhenjldjeaaMgG
/- Numbers of decimal digits, the lowest first: plain. No statement of the seed is proved here. -/
namespace Go.Proofs.Ytaobnhenjldjeaa.Pay
open Go Go.RowKit
set_option linter.unusedVariables false
set_option linter.unusedSimpArgs false
set_option linter.unusedSectionVars false

/-- The digits of a number, the lowest first. -/
def dgs (n : Nat) : List Int := if h : n = 0 then [] else ((n % 10 : Nat) : Int) :: dgs (n / 10)
theorem dgs_zero : dgs 0 = [] := by unfold dgs; simp
theorem dgs_pos {n : Nat} (h : n ≠ 0) : dgs n = ((n % 10 : Nat) : Int) :: dgs (n / 10) := by rw [dgs]; simp [h]
def valL : List Int → Nat
  | [] => 0
  | d :: l => d.toNat + 10 * valL l
def okD (l : List Int) : Prop := ∀ d ∈ l, 0 ≤ d ∧ d ≤ 9
structure Dgs (l : List Int) : Prop where
  ok : okD l
  last : ∀ d, l.getLast? = some d → d ≠ 0
theorem Dgs.tail {d : Int} {l : List Int} (h : Dgs (d :: l)) : Dgs l := by
  refine ⟨fun x hx => h.ok x (by simp [hx]), fun x hx => h.last x ?_⟩
  cases l with
  | nil => simp at hx
  | cons y l => rw [List.getLast?_cons_cons]; exact hx
theorem Dgs.pos : ∀ {l : List Int}, Dgs l → l ≠ [] → 0 < valL l
  | [], _, h => absurd rfl h
  | d :: l, h, _ => by
    unfold valL
    by_cases hl : l = []
    · subst hl
      have h1 := h.last d (by simp)
      have h2 := h.ok d (by simp)
      omega
    · have := Dgs.pos h.tail hl
      omega
theorem Dgs.eq : ∀ {l : List Int}, Dgs l → l = dgs (valL l)
  | [], _ => by simp [valL, dgs_zero]
  | d :: l, h => by
    have hp := h.pos (by simp)
    have h2 := h.ok d (by simp)
    rw [dgs_pos (by omega)]
    unfold valL
    have e1 : (d.toNat + 10 * valL l) % 10 = d.toNat := by omega
    have e2 : (d.toNat + 10 * valL l) / 10 = valL l := by omega
    rw [e1, e2, ← h.tail.eq]
    congr 1
    omega
theorem dgs_is (n : Nat) : Dgs (dgs n) ∧ valL (dgs n) = n := by
  induction n using Nat.strongRecOn with
  | _ n ih =>
    by_cases h : n = 0
    · subst h; rw [dgs_zero]; exact ⟨⟨fun d hd => by simp at hd, fun d hd => by simp at hd⟩, rfl⟩
    · obtain ⟨h1, h2⟩ := ih (n / 10) (by omega)
      rw [dgs_pos h]
      refine ⟨⟨fun d hd => ?_, fun d hd => ?_⟩, ?_⟩
      · rcases List.mem_cons.1 hd with rfl | hd
        · omega
        · exact h1.ok d hd
      · by_cases h3 : n / 10 = 0
        · rw [h3, dgs_zero] at hd
          simp at hd
          omega
        · rw [dgs_pos h3, List.getLast?_cons_cons, ← dgs_pos h3] at hd
          exact h1.last d hd
      · unfold valL
        rw [h2]; omega
theorem dgs_nil {n : Nat} : (dgs n).length = 0 ↔ n = 0 := by
  constructor
  · intro h
    have := (dgs_is n).2
    rw [List.length_eq_zero_iff.1 h] at this
    exact this.symm
  · intro h; subst h; rw [dgs_zero]; rfl
theorem dgs_lt {n : Nat} : n < 10 ^ (dgs n).length := by
  induction n using Nat.strongRecOn with
  | _ n ih =>
    by_cases h : n = 0
    · subst h; rw [dgs_zero]; simp
    · rw [dgs_pos h, List.length_cons, Nat.pow_succ]
      have := ih (n / 10) (by omega)
      omega
theorem dgs_ge {n : Nat} (h : n ≠ 0) : 10 ^ ((dgs n).length - 1) ≤ n := by
  induction n using Nat.strongRecOn with
  | _ n ih =>
    rw [dgs_pos h, List.length_cons, Nat.add_sub_cancel]
    by_cases h3 : n / 10 = 0
    · rw [h3, dgs_zero]; simp; omega
    · have h1 := ih (n / 10) (by omega) h3
      have h2 : (dgs (n / 10)).length ≠ 0 := fun e => h3 (dgs_nil.1 e)
      obtain ⟨m, hm⟩ : ∃ m, (dgs (n / 10)).length = m + 1 := ⟨(dgs (n / 10)).length - 1, by omega⟩
      rw [hm] at h1 ⊢
      rw [Nat.add_sub_cancel] at h1
      rw [Nat.pow_succ]
      omega
theorem dgs_len_le {n m : Nat} (h : n < 10 ^ m) : (dgs n).length ≤ m := by
  by_cases h0 : n = 0
  · subst h0; rw [dgs_zero]; simp
  · have h1 := dgs_ge h0
    rcases Nat.lt_or_ge m (dgs n).length with h2 | h2
    · have : 10 ^ m ≤ 10 ^ ((dgs n).length - 1) := Nat.pow_le_pow_right (by decide) (by omega)
      omega
    · exact h2
theorem valL_len : ∀ {l : List Int}, okD l → valL l < 10 ^ l.length
  | [], _ => by simp [valL]
  | d :: l, h => by
    have h1 := valL_len (l := l) fun x hx => h x (by simp [hx])
    have h2 := h d (by simp)
    unfold valL
    rw [List.length_cons, Nat.pow_succ]
    omega
theorem valL_append : ∀ (l k : List Int), valL (l ++ k) = valL l + 10 ^ l.length * valL k
  | [], k => by simp [valL]
  | d :: l, k => by
    simp only [List.cons_append, valL, List.length_cons, Nat.pow_succ]
    rw [valL_append l k, Nat.mul_add, Nat.mul_comm (10 ^ l.length) 10, Nat.mul_assoc]
    omega
/-- Numbers in a row of one's own, as they weigh. -/
def valF (g : Nat → Int) : Nat → Int
  | 0 => 0
  | n + 1 => valF g n + g n * 10 ^ n
theorem valF_succ (g : Nat → Int) (n : Nat) : valF g (n + 1) = valF g n + g n * 10 ^ n := rfl
def listF (g : Nat → Int) (n : Nat) : List Int := (List.range n).map g
theorem rowF_listF (g : Nat → Int) (n : Nat) : rowF g n = (listF g n).map dI := by simp [rowF, listF]
theorem listF_succ (g : Nat → Int) (n : Nat) : listF g (n + 1) = listF g n ++ [g n] := by simp [listF, List.range_succ]
theorem listF_len (g : Nat → Int) (n : Nat) : (listF g n).length = n := by simp [listF]
theorem valF_congr {g h : Nat → Int} : ∀ {n : Nat}, (∀ i, i < n → g i = h i) → valF g n = valF h n
  | 0, _ => rfl
  | n + 1, e => by unfold valF; rw [valF_congr fun i hi => e i (by omega), e n (by omega)]
theorem valF_upd (g : Nat → Int) (x : Int) {j : Nat} : ∀ {n : Nat}, j < n → valF (upd g j x) n = valF g n + (x - g j) * 10 ^ j
  | 0, h => by omega
  | n + 1, h => by
    unfold valF
    by_cases e : j = n
    · subst e
      have e1 : valF (upd g j x) j = valF g j := valF_congr fun i hi => if_neg (by omega)
      rw [e1, show upd g j x j = x from if_pos rfl, Int.sub_mul]; omega
    · rw [valF_upd g x (by omega), show upd g j x n = g n from if_neg (by omega)]; omega
theorem valF_listF {g : Nat → Int} : ∀ {n : Nat}, (∀ i, i < n → 0 ≤ g i) → ((valL (listF g n) : Nat) : Int) = valF g n
  | 0, _ => rfl
  | n + 1, h => by
    rw [listF_succ, valL_append, listF_len]
    unfold valF
    rw [← valF_listF fun i hi => h i (by omega)]
    have := h n (by omega)
    simp only [valL, Nat.mul_zero, Nat.add_zero, Int.natCast_add, Int.natCast_mul, Int.natCast_pow]
    rw [show ((g n).toNat : Int) = g n by omega, Int.mul_comm]; rfl
theorem valF_pos {g : Nat → Int} : ∀ {n : Nat}, (∀ i, i < n → 0 ≤ g i) → 0 ≤ valF g n
  | 0, _ => Int.le_refl _
  | n + 1, h => by
    unfold valF
    have h1 := valF_pos (g := g) (n := n) fun i hi => h i (by omega)
    have h2 := Int.mul_nonneg (h n (by omega)) (show (0 : Int) ≤ 10 ^ n from Int.pow_nonneg (by decide))
    omega
/-- How many are left, without noughts at the end. -/
def trimN (g : Nat → Int) : Nat → Nat
  | 0 => 0
  | n + 1 => if g n = 0 then trimN g n else n + 1
theorem trimN_le (g : Nat → Int) : ∀ n, trimN g n ≤ n
  | 0 => Nat.le_refl _
  | n + 1 => by
    have := trimN_le g n
    unfold trimN; split <;> omega
theorem valF_trim (g : Nat → Int) : ∀ n, valF g (trimN g n) = valF g n
  | 0 => rfl
  | n + 1 => by
    unfold trimN
    split
    · rename_i h
      rw [valF_trim g n, show valF g (n + 1) = valF g n + g n * 10 ^ n from rfl, h]; simp
    · rfl
theorem trimN_last (g : Nat → Int) : ∀ n, 0 < trimN g n → g (trimN g n - 1) ≠ 0
  | 0, h => by simp [trimN] at h
  | n + 1, h => by
    unfold trimN at h ⊢
    split
    · rename_i h0; rw [if_pos h0] at h; exact trimN_last g n h
    · rename_i h0; simpa using h0
theorem trimN_stop {g : Nat → Int} {n : Nat} (h : n = 0 ∨ g (n - 1) ≠ 0) : trimN g n = n := by
  cases n with
  | zero => rfl
  | succ n => unfold trimN; rw [if_neg (by simpa using h)]
/-- What is left without noughts is the number's digits. -/
theorem trim_dgs {g : Nat → Int} {n x : Nat} (h : ∀ i, i < n → 0 ≤ g i ∧ g i ≤ 9) (hv : valF g n = x) : listF g (trimN g n) = dgs x := by
  have hle := trimN_le g n
  have hd : Dgs (listF g (trimN g n)) := by
    refine ⟨fun d hd => ?_, fun d hd => ?_⟩
    · obtain ⟨i, hi, rfl⟩ := List.mem_map.1 hd
      exact h i (by have := List.mem_range.1 hi; omega)
    · by_cases h0 : trimN g n = 0
      · rw [h0] at hd; simp [listF] at hd
      · obtain ⟨m, hm⟩ : ∃ m, trimN g n = m + 1 := ⟨trimN g n - 1, by omega⟩
        have h1 := trimN_last g n (by omega)
        rw [hm] at hd h1
        rw [listF_succ, List.getLast?_append] at hd
        simp at hd
        rw [← hd]; simpa using h1
  rw [hd.eq]
  congr 1
  have := valF_listF (g := g) (n := trimN g n) fun i hi => (h i (by omega)).1
  rw [valF_trim, hv] at this
  omega
def atL (l : List Int) (i : Nat) : Int := (l[i]?).getD 0
theorem atL_at {l : List Int} {i : Nat} (h : i < l.length) : atL l i = l[i] := by unfold atL; rw [List.getElem?_eq_getElem h]; rfl
theorem listF_atL (l : List Int) : listF (atL l) l.length = l := by
  apply List.ext_getElem
  · simp [listF]
  · intro i h1 h2
    simp only [listF, List.getElem_map, List.getElem_range]
    exact atL_at h2
theorem row_atL (l : List Int) : l.map dI = rowF (atL l) l.length := rowF_of l
theorem atL_dgs (n i : Nat) : 0 ≤ atL (dgs n) i ∧ atL (dgs n) i ≤ 9 := by
  unfold atL
  cases h : (dgs n)[i]? with
  | none => simp
  | some d => exact (dgs_is n).1.ok d (List.mem_of_getElem? h)
theorem valF_dgs (n : Nat) : valF (atL (dgs n)) (dgs n).length = n := by
  rw [← valF_listF fun i _ => (atL_dgs n i).1, listF_atL, (dgs_is n).2]
/-- All but the last are digits, and the number is too small for the last. -/
theorem last_zero {g : Nat → Int} {n : Nat} {x : Int} (h : ∀ i, i < n → 0 ≤ g i) (h0 : 0 ≤ g n) (hv : valF g (n + 1) = x) (hx : x < 10 ^ n) : g n = 0 := by
  have h1 := valF_pos h
  rw [show valF g (n + 1) = valF g n + g n * 10 ^ n from rfl] at hv
  rcases Int.lt_or_le 0 (g n) with h2 | h2
  · have h3 : 1 * (10 : Int) ^ n ≤ g n * 10 ^ n := Int.mul_le_mul_of_nonneg_right h2 (Int.pow_nonneg (by decide))
    omega
  · omega
theorem carry_val (g : Nat → Int) {i n : Nat} (h : i + 1 < n) (hg : 0 ≤ g i) : valF (upd (upd g (i + 1) (g (i + 1) + g i / 10)) i (g i % 10)) n = valF g n := by
  rw [valF_upd _ _ (by omega), valF_upd _ _ h, show upd g (i + 1) (g (i + 1) + g i / 10) i = g i from if_neg (by omega), Int.pow_succ]
  obtain ⟨M, hM⟩ : ∃ M : Int, (10 : Int) ^ i = M := ⟨_, rfl⟩
  rw [hM]
  have h1 : g i % 10 - g i = - (g i / 10 * 10) := by omega
  have h2 : g (i + 1) + g i / 10 - g (i + 1) = g i / 10 := by omega
  rw [h1, h2, Int.neg_mul, Int.mul_comm M 10, ← Int.mul_assoc]
  omega
/-- Lists of digits, compared. -/
def cmpL : List Int → List Int → Nat → Int
  | a, b, 0 => 0
  | a, b, n + 1 => if atL a n < atL b n then -1 else if atL b n < atL a n then 1 else cmpL a b n
def sgnI (x : Int) : Int := if x < 0 then -1 else if 0 < x then 1 else 0
theorem ten_pos (n : Nat) : (0 : Int) < 10 ^ n := Int.pow_pos (by decide)
theorem cmp_val {g h : Nat → Int} (hg : ∀ i, 0 ≤ g i ∧ g i ≤ 9) (hh : ∀ i, 0 ≤ h i ∧ h i ≤ 9) : ∀ n, valF g n < 10 ^ n ∧ valF h n < 10 ^ n
  | 0 => by simp [valF]
  | n + 1 => by
    have := cmp_val hg hh n
    have h1 := hg n
    have h2 := hh n
    unfold valF
    rw [Int.pow_succ]
    have hp := ten_pos n
    obtain ⟨M, hM⟩ : ∃ M : Int, (10 : Int) ^ n = M := ⟨_, rfl⟩
    rw [hM] at this hp ⊢
    have h3 : g n * M ≤ 9 * M := Int.mul_le_mul_of_nonneg_right h1.2 (by omega)
    have h4 : h n * M ≤ 9 * M := Int.mul_le_mul_of_nonneg_right h2.2 (by omega)
    omega
theorem cmpL_sgn (x y : Nat) : ∀ n, cmpL (dgs x) (dgs y) n = sgnI (valF (atL (dgs x)) n - valF (atL (dgs y)) n)
  | 0 => by simp [cmpL, sgnI, valF]
  | n + 1 => by
    unfold cmpL
    rw [cmpL_sgn x y n]
    have h1 := cmp_val (atL_dgs x) (atL_dgs y) n
    have p1 := valF_pos (g := atL (dgs x)) (n := n) fun i _ => (atL_dgs x i).1
    have p2 := valF_pos (g := atL (dgs y)) (n := n) fun i _ => (atL_dgs y i).1
    rw [valF_succ, valF_succ]
    obtain ⟨a, ha⟩ : ∃ a, atL (dgs x) n = a := ⟨_, rfl⟩
    obtain ⟨b, hb⟩ : ∃ b, atL (dgs y) n = b := ⟨_, rfl⟩
    obtain ⟨A, hA⟩ : ∃ A, valF (atL (dgs x)) n = A := ⟨_, rfl⟩
    obtain ⟨B, hB⟩ : ∃ B, valF (atL (dgs y)) n = B := ⟨_, rfl⟩
    obtain ⟨M, hM⟩ : ∃ M : Int, (10 : Int) ^ n = M := ⟨_, rfl⟩
    rw [ha, hb, hA, hB, hM]
    rw [hA, hB, hM] at h1
    rw [hA] at p1
    rw [hB] at p2
    rcases Int.lt_trichotomy a b with h | h | h
    · rw [if_pos h]
      have : (a + 1) * M ≤ b * M := Int.mul_le_mul_of_nonneg_right h (by omega)
      rw [Int.add_mul] at this
      unfold sgnI
      rw [if_pos (by omega)]
    · subst h
      rw [if_neg (by omega), if_neg (by omega), show A + a * M - (B + a * M) = A - B by omega]
    · rw [if_neg (by omega), if_pos h]
      have : (b + 1) * M ≤ a * M := Int.mul_le_mul_of_nonneg_right h (by omega)
      rw [Int.add_mul] at this
      unfold sgnI
      rw [if_neg (by omega), if_pos (by omega)]
theorem size_sgn (x y : Nat) : (if (dgs x).length = (dgs y).length then cmpL (dgs x) (dgs y) (dgs x).length else if (dgs x).length < (dgs y).length then -1 else 1) = sgnI ((x : Int) - y) := by
  split
  · rename_i h
    rw [cmpL_sgn, valF_dgs, h, valF_dgs]
  · rename_i h
    have h1 := @dgs_lt x
    have h2 := @dgs_lt y
    have key : ∀ a b : Nat, (dgs a).length < (dgs b).length → a < b := fun a b hl => by
      have hb : b ≠ 0 := fun e => by subst e; rw [dgs_zero] at hl; simp at hl
      have h3 := @dgs_lt a
      have h4 := dgs_ge hb
      have : 10 ^ (dgs a).length ≤ 10 ^ ((dgs b).length - 1) := Nat.pow_le_pow_right (by decide) (by omega)
      omega
    split
    · rename_i hl
      have := key x y hl
      unfold sgnI; rw [if_pos (by omega)]
    · have := key y x (by omega)
      unfold sgnI; rw [if_neg (by omega), if_pos (by omega)]
end Go.Proofs.Ytaobnhenjldjeaa.Pay
/- Numbers of decimal digits: Of, trim, size, Compare walked. No statement of the seed is proved here. -/
namespace Go.Proofs.Ytaobnhenjldjeaa.Pay
open Go Go.RowKit
set_option linter.unusedVariables false
set_option linter.unusedSimpArgs false
set_option linter.unusedSectionVars false

theorem trim_ok (g : Nat → Int) (n : Nat) (hn : n ≤ 1000000) : WpF Try.prog 54 [.sl 0 n] [.arr 3 1 (rowF g n)] fun r S => r = .sl 0 (trimN g n) ∧ S = [.arr 3 1 (rowF g n)] := by
  refine WpF.enter tabOk Try.func54 rfl (by show 1 ≤ 21; decide) ?_
  simp only [Try.f54]
  refine WpC.seq (WpC.ops tabOk (r := []) (by simp -implicitDefEqProofs <;> rfl) rfl ?_)
  refine WpC.seq ?_
  refine WpC.block ?_
  refine WpC.loopM [] [0] (fun k => k) (n : Nat) (fun k => [(0, .sl 0 k)]) (fun k => [.arr 3 1 (rowF g n)]) (fun k => k ≤ n ∧ trimN g k = trimN g n) (by simp -implicitDefEqProofs <;> rfl) (Gh.cut' [0] 1 (by simp -implicitDefEqProofs) (by simp -implicitDefEqProofs) rfl (by simp) (by simp) (by simp)) (⟨Nat.le_refl _, rfl⟩) ?_
  rintro k hi
  simp only [List.cons_append, List.nil_append]
  have hkn : k ≤ n := hi.1
  obtain ⟨q, hq⟩ : ∃ q, k - 1 = q := ⟨_, rfl⟩
  refine WpC.seq ?_
  refine WpC.seq ?_
  refine WpC.val 14 (.d (.bool (decide (0 < k ∧ g q = 0)))) ?_ ?_
  · refine WpC.region ?_
    refine WpO.run tabOk 4 (by simp -implicitDefEqProofs [hkn] <;> first | exact ⟨rfl, rfl⟩ | rfl) ?_
    refine WpO.splitB 6 (by simp -implicitDefEqProofs [hkn] <;> rfl) (by rfl) (fun g6 => ?_) (fun g6 => ?_)
    · have g6' := g6; first | simp only [dT, dF] at g6' | try simp at g6'
      have hk0 : 0 < k := by simpa using g6
      have hqn : q < n := by omega
      have hqk : q < k := by omega
      have hw : IntKind.i64.wrap ((k : Int) - 1) = (q : Int) := by rw [wrapI (by omega) (by omega)]; omega
      refine WpO.run tabOk 8 (by simp -implicitDefEqProofs [hkn, g6, hk0, hqn, hqk, hw] <;> first | exact ⟨rfl, rfl⟩ | rfl) ?_
      refine WpO.nil ?_
      refine ⟨rfl, Gh.only 14 13 ?_ (by first | rfl | simp -implicitDefEqProofs [hkn, g6, hk0, hqn, hqk, hw]) (by rfl)⟩
      simp -implicitDefEqProofs [hkn, g6, hk0, hqn, hqk, hw, g6']
    · have g6' := g6; first | simp only [dT, dF] at g6' | try simp at g6'
      refine WpO.run tabOk 8 (by simp -implicitDefEqProofs [hkn, g6] <;> first | exact ⟨rfl, rfl⟩ | rfl) ?_
      refine WpO.nil ?_
      refine ⟨rfl, Gh.only 14 13 ?_ (by first | rfl | simp -implicitDefEqProofs [hkn, g6]) (by rfl)⟩
      simp -implicitDefEqProofs [hkn, g6, g6']
  refine WpC.condD (0 < k ∧ g q = 0) (by simp -implicitDefEqProofs [hkn]) (fun d14 => ?_) (fun d14 => ?_)
  · have hkq : k = q + 1 := by omega
    have hw : IntKind.i64.wrap ((k : Int) - 1) = (q : Int) := by rw [wrapI (by omega) (by omega)]; omega
    have hqk : q ≤ k := by omega
    have htr : trimN g q = trimN g n := by
      rw [← hi.2, hkq]
      exact (if_pos d14.2).symm
    refine WpC.skip ?_
    refine WpC.block ?_
    refine WpC.ops tabOk (r := []) (by simp -implicitDefEqProofs [hkn, d14, hw, hqk] <;> rfl) rfl ?_
    exact ⟨q, ⟨by omega, htr⟩, by omega, Gh.cut' [0] 1 (by simp -implicitDefEqProofs [hkn, d14, hw, hqk]) (by simp -implicitDefEqProofs [hkn, d14, hw, hqk]) rfl (by simp) (by simp) (by simp)⟩
  · refine WpC.exit ?_
    refine WpC.seq (WpC.ops tabOk (r := []) (by simp -implicitDefEqProofs [hkn, d14] <;> rfl) rfl ?_)
    refine WpC.ret ?_
    have h2 : trimN g n = k := by
      rw [← hi.2]
      refine trimN_stop ?_
      rcases Nat.eq_zero_or_pos k with h | h
      · exact .inl h
      · exact .inr fun e => d14 ⟨h, by rw [← hq]; exact e⟩
    refine ⟨.inr rfl, _, by simp -implicitDefEqProofs <;> rfl, ?_, by simp⟩
    simp [h2]
def encB (m : Bool) (x : Nat) : D := .agg [.bool m, .list 1 ((dgs x).map dI)]
attribute [simp] encB
theorem dgs_19 {n : Nat} (h : n ≤ 9223372036854775808) : (dgs n).length ≤ 19 := dgs_len_le (by omega)
theorem tmod10 {m : Int} (h : -9223372036854775808 ≤ m ∧ m ≤ 9223372036854775807) : (if m.tmod 10 < 0 then IntKind.i64.wrap (-m.tmod 10) else m.tmod 10) = ((m.natAbs % 10 : Nat) : Int) ∧ (IntKind.i64.wrap (m.tdiv 10)).natAbs = m.natAbs / 10 ∧ in64 (IntKind.i64.wrap (m.tdiv 10)) := by
  have h1 : (m.tmod 10).natAbs = m.natAbs % 10 := Int.natAbs_tmod ..
  have h2 : (m.tdiv 10).natAbs = m.natAbs / 10 := Int.natAbs_tdiv ..
  have h3 : IntKind.i64.wrap (m.tdiv 10) = m.tdiv 10 := wrapI (by omega) (by omega)
  rw [h3]
  refine ⟨?_, h2, by unfold in64; omega⟩
  split
  · rw [wrapI (by omega) (by omega)]; omega
  · omega
theorem of_ok (n : Int) (hn : in64 n) : Gives Try.prog 53 [.d (dI n)] (.d (encB (decide (n < 0)) n.natAbs)) := by
  unfold in64 at hn
  refine Gives.enter tabOk Try.func53 rfl (by show 1 ≤ 25; decide) ?_
  simp only [Try.f53]
  refine WpC.seq (WpC.ops tabOk (r := []) (by simp -implicitDefEqProofs <;> rfl) rfl ?_)
  refine WpC.seq (WpC.ops tabOk (r := []) (by simp -implicitDefEqProofs <;> rfl) rfl ?_)
  refine WpC.seq ?_
  refine WpC.block ?_
  refine WpC.loopM [2, 3] [0] (fun x => x.1.natAbs) ((n, []) : Int × List Int) (fun x => [(0, .d (dI x.1))]) (fun x => [.cells 77 [.d (.bool false), .d .nil], .cells 77 [.d (.bool (decide (n < 0))), .sl 2 x.2.length], .arr 3 1 (x.2.map dI)]) (fun x => in64 x.1 ∧ dgs n.natAbs = x.2 ++ dgs x.1.natAbs) (by simp -implicitDefEqProofs <;> rfl) (Gh.trans (Gh.nilCell (id := 1) (off := 1) (t := 77) (cs := [.d (.bool (decide (n < 0))), .d .nil]) 3 1 (by simp) (by simp) (by simp)) (Gh.cut' [0, 2, 3] 3 (by simp) (by simp) rfl (by simp) (by simp) (by simp))) (⟨hn, rfl⟩) ?_
  rintro x hi
  simp only [List.cons_append, List.nil_append]
  obtain ⟨m, l⟩ := x
  obtain ⟨h1, h2⟩ := hi
  unfold in64 at h1
  simp only at h1 h2 ⊢
  obtain ⟨t1, t2, t3⟩ := tmod10 h1
  have h19 := dgs_19 (n := n.natAbs) (by omega)
  have hll : l.length ≤ 8589934591 := by rw [h2, List.length_append] at h19; omega
  obtain ⟨d, hd⟩ : ∃ d, m.natAbs % 10 = d := ⟨_, rfl⟩
  rw [hd] at t1
  refine WpC.seq ?_
  refine WpC.seq (WpC.ops tabOk (r := []) (by simp -implicitDefEqProofs [hll] <;> rfl) rfl ?_)
  refine WpC.condD (¬ m = 0) (by simp -implicitDefEqProofs [hll]) (fun d9 => ?_) (fun d9 => ?_)
  · refine WpC.skip ?_
    refine WpC.block ?_
    refine WpC.seq (WpC.ops tabOk (r := []) (by simp -implicitDefEqProofs [hll, d9] <;> rfl) rfl ?_)
    refine WpC.seq ?_
    refine WpC.seq (WpC.ops tabOk (r := []) (by simp -implicitDefEqProofs [hll, d9] <;> rfl) rfl ?_)
    refine WpC.join ⟨[(0, .d (dI m)), (2, .ref 0 0), (3, .ref 1 0), (4, .d (dI d))], [.cells 77 [.d (.bool false), .d .nil], .cells 77 [.d (.bool (decide (n < 0))), .sl 2 l.length], .arr 3 1 (l.map dI)], 25, 0⟩ ?_ ?_
    · refine WpC.condD (m.tmod 10 < 0) (by simp -implicitDefEqProofs [hll, d9]) (fun d13 => ?_) (fun d13 => ?_)
      · refine WpC.ops tabOk (r := []) (by simp -implicitDefEqProofs [hll, d9, d13] <;> rfl) rfl ?_
        have t4 := t1
        simp only [d13, if_true, if_false] at t4
        exact ⟨rfl, Gh.cut' [0, 2, 3, 4] 3 (by simp -implicitDefEqProofs [hll, d9, d13, t4]) (by simp -implicitDefEqProofs [hll, d9, d13, t4]) rfl (by simp) (by simp) (by simp)⟩
      · refine WpC.skip ?_
        have t4 := t1
        simp only [d13, if_true, if_false] at t4
        exact ⟨rfl, Gh.cut' [0, 2, 3, 4] 3 (by simp -implicitDefEqProofs [hll, d9, d13, t4]) (by simp -implicitDefEqProofs [hll, d9, d13, t4]) rfl (by simp) (by simp) (by simp)⟩
    · refine WpC.seq (WpC.ops tabOk (r := []) (by simp -implicitDefEqProofs [hll, d9] <;> rfl) rfl ?_)
      refine WpC.ops tabOk (r := []) (by simp -implicitDefEqProofs [hll, d9] <;> rfl) rfl ?_
      exact ⟨(IntKind.i64.wrap (m.tdiv 10), l ++ [(d : Int)]), ⟨t3, by rw [h2, t2, dgs_pos (by omega), hd]; simp⟩, by simp only [t2]; omega, Gh.pick [0, 2, 3] [0, 1, 4] (by simp; rfl) (by simp) (by simp) (by simp) (by simp; rfl) (by simp) (by simp)⟩
  · refine WpC.exit ?_
    refine WpC.seq (WpC.ops tabOk (r := []) (by simp -implicitDefEqProofs [hll, d9] <;> rfl) rfl ?_)
    refine WpC.ret ?_
    try simp only [blockQ, seqQ]
    refine retD_i (by simp -implicitDefEqProofs [hll, d9] <;> rfl) (by simp -implicitDefEqProofs [hll, d9] <;> rfl) ?_
    have hm : m = 0 := Classical.not_not.1 d9
    subst hm
    simp [h2, dgs_zero]
def sizeL (a b : List Int) : Int := if a.length = b.length then cmpL a b a.length else if a.length < b.length then -1 else 1
theorem size_dgs (x y : Nat) : sizeL (dgs x) (dgs y) = sgnI ((x : Int) - y) := size_sgn x y
theorem sizeB_ok (a b : List Int) (ha : a.length ≤ 1000000) (hb : b.length ≤ 1000000) : Gives Try.prog 55 [.d (.list 1 (a.map dI)), .d (.list 1 (b.map dI))] (.d (dI (sizeL a b))) := by
  unfold sizeL
  refine Gives.enter tabOk Try.func55 rfl (by show 2 ≤ 41; decide) ?_
  simp only [Try.f55]
  refine WpC.seq (WpC.ops tabOk (r := []) (by simp -implicitDefEqProofs <;> rfl) rfl ?_)
  refine WpC.seq ?_
  refine WpC.seq (WpC.ops tabOk (r := []) (by simp -implicitDefEqProofs <;> rfl) rfl ?_)
  refine WpC.condD (¬ (a.length : Int) = b.length) (by simp -implicitDefEqProofs) (fun d10 => ?_) (fun d10 => ?_)
  · refine WpC.seq ?_
    refine WpC.seq (WpC.ops tabOk (r := []) (by simp -implicitDefEqProofs [d10] <;> rfl) rfl ?_)
    refine WpC.condD ((a.length : Int) < b.length) (by simp -implicitDefEqProofs [d10]) (fun d15 => ?_) (fun d15 => ?_)
    · refine WpC.seq (WpC.ops tabOk (r := []) (by simp -implicitDefEqProofs [d10, d15] <;> rfl) rfl ?_)
      refine WpC.ret ?_
      try simp only [blockQ, seqQ]
      refine retD_i (by simp -implicitDefEqProofs [d10, d15] <;> rfl) (by simp -implicitDefEqProofs [d10, d15] <;> rfl) ?_
      have h1 : ¬ a.length = b.length := by omega
      have h2 : a.length < b.length := by omega
      simp [h1, h2]
    · refine WpC.skip ?_
      refine WpC.seq (WpC.ops tabOk (r := []) (by simp -implicitDefEqProofs [d10, d15] <;> rfl) rfl ?_)
      refine WpC.ret ?_
      try simp only [blockQ, seqQ]
      refine retD_i (by simp -implicitDefEqProofs [d10, d15] <;> rfl) (by simp -implicitDefEqProofs [d10, d15] <;> rfl) ?_
      have h1 : ¬ a.length = b.length := by omega
      have h2 : ¬ a.length < b.length := by omega
      simp [h1, h2]
  · have hab : a.length = b.length := by omega
    have hw0 : IntKind.i64.wrap ((a.length : Int) - 1) = (a.length : Int) - 1 := wrapI (by omega) (by omega)
    rw [if_pos hab]
    obtain ⟨R, hR⟩ : ∃ R, cmpL a b a.length = R := ⟨_, rfl⟩
    rw [hR]
    refine WpC.skip ?_
    refine WpC.seq ?_
    refine WpC.seq (WpC.ops tabOk (r := []) (by simp -implicitDefEqProofs [d10, hw0] <;> rfl) rfl ?_)
    refine WpC.block ?_
    refine WpC.loopM [0, 1] [5] (fun k => k) (a.length : Nat) (fun k => [(5, .d (dI ((k : Int) - 1)))]) (fun k => []) (fun k => k ≤ a.length ∧ cmpL a b k = R) (by simp -implicitDefEqProofs [d10, hw0] <;> rfl) (Gh.cut' [5, 0, 1] 0 (by simp -implicitDefEqProofs [d10, hw0]) (by simp -implicitDefEqProofs [d10, hw0]) rfl (by simp) (by simp) (by simp)) (⟨Nat.le_refl _, hR⟩) ?_
    rintro k hi
    simp only [List.cons_append, List.nil_append]
    have hkn : k ≤ a.length := hi.1
    have hkR := hi.2
    refine WpC.seq ?_
    refine WpC.seq (WpC.ops tabOk (r := []) (by simp -implicitDefEqProofs [d10, hw0] <;> rfl) rfl ?_)
    refine WpC.condD ((0 : Int) ≤ (k : Int) - 1) (by simp -implicitDefEqProofs [d10, hw0]) (fun d20 => ?_) (fun d20 => ?_)
    · obtain ⟨q, rfl⟩ : ∃ q, k = q + 1 := ⟨k - 1, by omega⟩
      have hqa : q < a.length := by omega
      have hqb : q < b.length := by omega
      obtain ⟨u, hu⟩ : ∃ u, a[q] = u := ⟨_, rfl⟩
      obtain ⟨v, hv⟩ : ∃ v, b[q] = v := ⟨_, rfl⟩
      have hw : IntKind.i64.wrap ((q : Int) - 1) = (q : Int) - 1 := wrapI (by omega) (by omega)
      have hkR1 : (if u < v then -1 else if v < u then 1 else cmpL a b q) = R := by
        rw [← hkR, ← hu, ← hv, ← atL_at hqa, ← atL_at hqb]; rfl
      refine WpC.skip ?_
      refine WpC.seq ?_
      refine WpC.block ?_
      refine WpC.seq ?_
      refine WpC.seq (WpC.drawn tabOk (by kernel_rfl) 0 (by simp) ?_)
      refine DrO.run (fz := []) 3 (by simp -implicitDefEqProofs [d10, hw0, d20, hqa, hqb, hu, hv, hw] <;> first | exact ⟨rfl, rfl, rfl, rfl⟩ | rfl) ?_
      refine DrO.run (fz := []) 3 (by simp -implicitDefEqProofs [d10, hw0, d20, hqa, hqb, hu, hv, hw] <;> first | exact ⟨rfl, rfl, rfl, rfl⟩ | rfl) ?_
      refine DrO.run (fz := []) 3 (by simp -implicitDefEqProofs [d10, hw0, d20, hqa, hqb, hu, hv, hw] <;> first | exact ⟨rfl, rfl, rfl, rfl⟩ | rfl) ?_
      refine DrO.nil ⟨by kernel_rfl, ?_⟩
      refine WpC.condD (u < v) (by simp -implicitDefEqProofs [d10, hw0, d20, hqa, hqb, hu, hv, hw]) (fun d31 => ?_) (fun d31 => ?_)
      · refine WpC.seq (WpC.ops tabOk (r := []) (by simp -implicitDefEqProofs [d10, hw0, d20, hqa, hqb, hu, hv, hw, d31] <;> rfl) rfl ?_)
        refine WpC.ret ?_
        try simp only [blockQ, seqQ]
        refine retD_i (by simp -implicitDefEqProofs [d10, hw0, d20, hqa, hqb, hu, hv, hw, d31] <;> rfl) (by simp -implicitDefEqProofs [d10, hw0, d20, hqa, hqb, hu, hv, hw, d31] <;> rfl) ?_
        rw [if_pos d31] at hkR1
        simp [← hkR1]
      · refine WpC.skip ?_
        refine WpC.seq (WpC.drawn tabOk (by kernel_rfl) 0 (by simp) ?_)
        refine DrO.run (fz := []) 3 (by simp -implicitDefEqProofs [d10, hw0, d20, hqa, hqb, hu, hv, hw, d31] <;> first | exact ⟨rfl, rfl, rfl, rfl⟩ | rfl) ?_
        refine DrO.run (fz := []) 3 (by simp -implicitDefEqProofs [d10, hw0, d20, hqa, hqb, hu, hv, hw, d31] <;> first | exact ⟨rfl, rfl, rfl, rfl⟩ | rfl) ?_
        refine DrO.run (fz := []) 3 (by simp -implicitDefEqProofs [d10, hw0, d20, hqa, hqb, hu, hv, hw, d31] <;> first | exact ⟨rfl, rfl, rfl, rfl⟩ | rfl) ?_
        refine DrO.nil ⟨by kernel_rfl, ?_⟩
        refine WpC.condD (v < u) (by simp -implicitDefEqProofs [d10, hw0, d20, hqa, hqb, hu, hv, hw, d31]) (fun d40 => ?_) (fun d40 => ?_)
        · refine WpC.seq (WpC.ops tabOk (r := []) (by simp -implicitDefEqProofs [d10, hw0, d20, hqa, hqb, hu, hv, hw, d31, d40] <;> rfl) rfl ?_)
          refine WpC.ret ?_
          try simp only [blockQ, seqQ]
          refine retD_i (by simp -implicitDefEqProofs [d10, hw0, d20, hqa, hqb, hu, hv, hw, d31, d40] <;> rfl) (by simp -implicitDefEqProofs [d10, hw0, d20, hqa, hqb, hu, hv, hw, d31, d40] <;> rfl) ?_
          rw [if_neg d31, if_pos d40] at hkR1
          simp [← hkR1]
        · have hkR2 : cmpL a b q = R := by rw [← hkR1, if_neg d31, if_neg d40]
          refine WpC.skip ?_
          refine WpC.ops tabOk (r := []) (by simp -implicitDefEqProofs [d10, hw0, d20, hqa, hqb, hu, hv, hw, d31, d40] <;> rfl) rfl ?_
          exact ⟨q, ⟨by omega, hkR2⟩, by omega, Gh.cut' [5, 0, 1] 0 (by simp -implicitDefEqProofs [d10, hw0, d20, hqa, hqb, hu, hv, hw, d31, d40]) (by simp) rfl (by simp) (by simp) (by simp)⟩
    · refine WpC.exit ?_
      refine WpC.seq (WpC.ops tabOk (r := []) (by simp -implicitDefEqProofs [d10, hw0, d20] <;> rfl) rfl ?_)
      refine WpC.ret ?_
      try simp only [blockQ, seqQ]
      refine retD_i (by simp -implicitDefEqProofs [d10, hw0, d20] <;> rfl) (by simp -implicitDefEqProofs [d10, hw0, d20] <;> rfl) ?_
      have hk0 : k = 0 := by omega
      subst hk0
      simp [← hkR, cmpL]
theorem cmpB_ok (m1 m2 : Bool) (x y : Nat) (hx : (dgs x).length ≤ 1000000) (hy : (dgs y).length ≤ 1000000) (X Y : Int) (eX : X = if m1 = true then -(x : Int) else x) (eY : Y = if m2 = true then -(y : Int) else y) (h1 : m1 = true → 0 < x) (h2 : m2 = true → 0 < y) :
    Gives Try.prog 58 [.d (encB m1 x), .d (encB m2 y)] (.d (dI (sgnI (X - Y)))) := by
  have s1 := sizeB_ok (dgs x) (dgs y) hx hy
  have s2 := sizeB_ok (dgs y) (dgs x) hy hx
  rw [size_dgs] at s1 s2
  cases m1 <;> cases m2 <;> simp only [if_true, if_false, Bool.false_eq_true] at eX eY h1 h2 <;> subst eX <;> subst eY
  · skip
    refine Gives.enter tabOk Try.func58 rfl (by show 2 ≤ 24; decide) ?_
    simp only [Try.f58]
    refine WpC.seq (WpC.ops tabOk (r := []) (by simp -implicitDefEqProofs <;> rfl) rfl ?_)
    refine WpC.seq ?_
    refine WpC.seq (WpC.ops tabOk (r := []) (by simp -implicitDefEqProofs <;> rfl) rfl ?_)
    refine WpC.condF (by simp -implicitDefEqProofs <;> rfl) ?_
    refine WpC.skip ?_
    refine WpC.seq ?_
    refine WpC.seq (WpC.ops tabOk (r := []) (by simp -implicitDefEqProofs <;> rfl) rfl ?_)
    refine WpC.condF (by simp -implicitDefEqProofs <;> rfl) ?_
    refine WpC.skip ?_
    refine WpC.seq ?_
    refine WpC.region ?_
    refine WpO.run tabOk 4 (by simp -implicitDefEqProofs <;> first | exact ⟨rfl, rfl⟩ | rfl) ?_
    refine WpO.data (by simp) rfl (by simp -implicitDefEqProofs <;> rfl) (by simp -implicitDefEqProofs <;> rfl) (by simp -implicitDefEqProofs <;> rfl) call_55 (by simp) (s1) (by rfl) (by simp -implicitDefEqProofs <;> rfl) ?_
    refine WpO.run tabOk 1 (by simp -implicitDefEqProofs <;> first | exact ⟨rfl, rfl⟩ | rfl) ?_
    refine WpO.nil ?_
    refine WpC.ret ?_
    try simp only [blockQ, seqQ]
    refine retD_i (by simp -implicitDefEqProofs <;> rfl) (by simp -implicitDefEqProofs <;> rfl) ?_
    simp -implicitDefEqProofs
  · have p2 := h2 trivial
    have e : sgnI ((x : Int) - -(y : Int)) = 1 := by unfold sgnI; rw [if_neg (by omega), if_pos (by omega)]
    rw [e]
    refine Gives.enter tabOk Try.func58 rfl (by show 2 ≤ 24; decide) ?_
    simp only [Try.f58]
    refine WpC.seq (WpC.ops tabOk (r := []) (by simp -implicitDefEqProofs <;> rfl) rfl ?_)
    refine WpC.seq ?_
    refine WpC.seq (WpC.ops tabOk (r := []) (by simp -implicitDefEqProofs <;> rfl) rfl ?_)
    refine WpC.condT (by simp -implicitDefEqProofs <;> rfl) ?_
    refine WpC.seq ?_
    refine WpC.seq (WpC.ops tabOk (r := []) (by simp -implicitDefEqProofs <;> rfl) rfl ?_)
    refine WpC.condF (by simp -implicitDefEqProofs <;> rfl) ?_
    refine WpC.skip ?_
    refine WpC.seq (WpC.ops tabOk (r := []) (by simp -implicitDefEqProofs <;> rfl) rfl ?_)
    refine WpC.ret ?_
    try simp only [blockQ, seqQ]
    refine retD_i (by simp -implicitDefEqProofs <;> rfl) (by simp -implicitDefEqProofs <;> rfl) ?_
    simp -implicitDefEqProofs
  · have p1 := h1 trivial
    have e : sgnI (-(x : Int) - (y : Int)) = -1 := by unfold sgnI; rw [if_pos (by omega)]
    rw [e]
    refine Gives.enter tabOk Try.func58 rfl (by show 2 ≤ 24; decide) ?_
    simp only [Try.f58]
    refine WpC.seq (WpC.ops tabOk (r := []) (by simp -implicitDefEqProofs <;> rfl) rfl ?_)
    refine WpC.seq ?_
    refine WpC.seq (WpC.ops tabOk (r := []) (by simp -implicitDefEqProofs <;> rfl) rfl ?_)
    refine WpC.condT (by simp -implicitDefEqProofs <;> rfl) ?_
    refine WpC.seq ?_
    refine WpC.seq (WpC.ops tabOk (r := []) (by simp -implicitDefEqProofs <;> rfl) rfl ?_)
    refine WpC.condT (by simp -implicitDefEqProofs <;> rfl) ?_
    refine WpC.seq (WpC.ops tabOk (r := []) (by simp -implicitDefEqProofs <;> rfl) rfl ?_)
    refine WpC.ret ?_
    try simp only [blockQ, seqQ]
    refine retD_i (by simp -implicitDefEqProofs <;> rfl) (by simp -implicitDefEqProofs <;> rfl) ?_
    simp -implicitDefEqProofs
  · have e : sgnI (-(x : Int) - -(y : Int)) = sgnI ((y : Int) - x) := by rw [show -(x : Int) - -(y : Int) = (y : Int) - x by omega]
    rw [e]
    refine Gives.enter tabOk Try.func58 rfl (by show 2 ≤ 24; decide) ?_
    simp only [Try.f58]
    refine WpC.seq (WpC.ops tabOk (r := []) (by simp -implicitDefEqProofs <;> rfl) rfl ?_)
    refine WpC.seq ?_
    refine WpC.seq (WpC.ops tabOk (r := []) (by simp -implicitDefEqProofs <;> rfl) rfl ?_)
    refine WpC.condF (by simp -implicitDefEqProofs <;> rfl) ?_
    refine WpC.skip ?_
    refine WpC.seq ?_
    refine WpC.seq (WpC.ops tabOk (r := []) (by simp -implicitDefEqProofs <;> rfl) rfl ?_)
    refine WpC.condT (by simp -implicitDefEqProofs <;> rfl) ?_
    refine WpC.seq ?_
    refine WpC.region ?_
    refine WpO.run tabOk 4 (by simp -implicitDefEqProofs <;> first | exact ⟨rfl, rfl⟩ | rfl) ?_
    refine WpO.data (by simp) rfl (by simp -implicitDefEqProofs <;> rfl) (by simp -implicitDefEqProofs <;> rfl) (by simp -implicitDefEqProofs <;> rfl) call_55 (by simp) (s2) (by rfl) (by simp -implicitDefEqProofs <;> rfl) ?_
    refine WpO.run tabOk 1 (by simp -implicitDefEqProofs <;> first | exact ⟨rfl, rfl⟩ | rfl) ?_
    refine WpO.nil ?_
    refine WpC.ret ?_
    try simp only [blockQ, seqQ]
    refine retD_i (by simp -implicitDefEqProofs <;> rfl) (by simp -implicitDefEqProofs <;> rfl) ?_
    simp -implicitDefEqProofs
end Go.Proofs.Ytaobnhenjldjeaa.Pay
/- Numbers of decimal digits: Mul and less walked. No statement of the seed is proved here. -/
namespace Go.Proofs.Ytaobnhenjldjeaa.Pay
open Go Go.RowKit
set_option linter.unusedVariables false
set_option linter.unusedSimpArgs false
set_option linter.unusedSectionVars false

theorem rowF_snoc (f : Nat → Int) (k : Nat) : rowF f (k + 1) = rowF f k ++ [dI (f k)] := by simp [rowF, List.range_succ]
theorem row_trim {g : Nat → Int} {n x : Nat} (h : ∀ i, i < n → 0 ≤ g i ∧ g i ≤ 9) (hv : valF g n = x) : (rowF g n).take (trimN g n) = (dgs x).map dI := by
  have hle := trimN_le g n
  rw [← trim_dgs h hv, ← rowF_listF]
  apply List.ext_getElem?
  intro i
  by_cases hi : i < trimN g n
  · rw [List.getElem?_take_of_lt hi, rowF_get hi, rowF_get (by omega)]
  · rw [List.getElem?_eq_none (by simp; omega), List.getElem?_eq_none (by simp; omega)]
/-- Less, digit by digit. -/
def brw (a b : Nat → Int) : Nat → Int
  | 0 => 0
  | n + 1 => if a n - brw a b n - b n < 0 then 1 else 0
def ddg (a b : Nat → Int) (n : Nat) : Int := a n - brw a b n - b n
def odg (a b : Nat → Int) (n : Nat) : Int := if ddg a b n < 0 then ddg a b n + 10 else ddg a b n
theorem brw_b (a b : Nat → Int) : ∀ n, 0 ≤ brw a b n ∧ brw a b n ≤ 1
  | 0 => by simp [brw]
  | n + 1 => by unfold brw; split <;> omega
theorem odg_b {a b : Nat → Int} (ha : ∀ i, 0 ≤ a i ∧ a i ≤ 9) (hb : ∀ i, 0 ≤ b i ∧ b i ≤ 9) (n : Nat) : 0 ≤ odg a b n ∧ odg a b n ≤ 9 := by
  have h1 := ha n
  have h2 := hb n
  have h3 := brw_b a b n
  unfold odg ddg
  split <;> omega
theorem odg_val (a b : Nat → Int) : ∀ n, valF (odg a b) n = valF a n - valF b n + brw a b n * 10 ^ n
  | 0 => by simp [valF, brw]
  | n + 1 => by
    rw [valF_succ, valF_succ, valF_succ, odg_val a b n, Int.pow_succ]
    obtain ⟨M, hM⟩ : ∃ M : Int, (10 : Int) ^ n = M := ⟨_, rfl⟩
    rw [hM]
    have e : brw a b (n + 1) = if ddg a b n < 0 then 1 else 0 := rfl
    have e2 : ddg a b n * M = a n * M - brw a b n * M - b n * M := by unfold ddg; rw [Int.sub_mul, Int.sub_mul]
    rw [e]
    unfold odg
    split
    · rw [Int.add_mul, e2]; omega
    · rw [e2]; omega
theorem odg_all {x y : Nat} (h : y ≤ x) : valF (odg (atL (dgs x)) (atL (dgs y))) (dgs x).length = ((x - y : Nat) : Int) := by
  have h1 := odg_val (atL (dgs x)) (atL (dgs y)) (dgs x).length
  have hlen : (dgs y).length ≤ (dgs x).length := dgs_len_le (Nat.lt_of_le_of_lt h dgs_lt)
  have hy : valF (atL (dgs y)) (dgs x).length = y := by
    have : ∀ k, valF (atL (dgs y)) ((dgs y).length + k) = y := fun k => by
      induction k with
      | zero => exact valF_dgs y
      | succ k ih =>
        rw [← Nat.add_assoc, valF_succ, ih]
        have : atL (dgs y) ((dgs y).length + k) = 0 := by unfold atL; rw [List.getElem?_eq_none (by omega)]; rfl
        rw [this]; simp
    have := this ((dgs x).length - (dgs y).length)
    rwa [show (dgs y).length + ((dgs x).length - (dgs y).length) = (dgs x).length by omega] at this
  have h2 := cmp_val (fun i => odg_b (atL_dgs x) (atL_dgs y) i) (atL_dgs x) (dgs x).length
  have h3 := brw_b (atL (dgs x)) (atL (dgs y)) (dgs x).length
  rw [valF_dgs, hy] at h1
  rcases Int.lt_or_le 0 (brw (atL (dgs x)) (atL (dgs y)) (dgs x).length) with h4 | h4
  · have e : brw (atL (dgs x)) (atL (dgs y)) (dgs x).length = 1 := by omega
    rw [e] at h1
    omega
  · have e : brw (atL (dgs x)) (atL (dgs y)) (dgs x).length = 0 := by omega
    rw [e] at h1
    omega
theorem lessB_ok (x y : Nat) (h : y ≤ x) (hx : (dgs x).length ≤ 1000000) : Gives Try.prog 56 [.d (.list 1 ((dgs x).map dI)), .d (.list 1 ((dgs y).map dI))] (.d (.list 1 ((dgs (x - y)).map dI))) := by
  have hrt := row_trim (fun i _ => odg_b (atL_dgs x) (atL_dgs y) i) (odg_all h)
  obtain ⟨a, ha⟩ : ∃ a, dgs x = a := ⟨_, rfl⟩
  obtain ⟨b, hb⟩ : ∃ b, dgs y = b := ⟨_, rfl⟩
  have b1 := atL_dgs x
  have b2 := atL_dgs y
  have hlen : b.length ≤ a.length := by rw [← ha, ← hb]; exact dgs_len_le (Nat.lt_of_le_of_lt h dgs_lt)
  rw [ha] at hrt b1 hx ⊢
  rw [hb] at hrt b2 ⊢
  have hto := trim_ok (odg (atL a) (atL b)) a.length hx
  obtain ⟨n, hn⟩ : ∃ n, a.length = n := ⟨_, rfl⟩
  rw [hn] at hto hrt
  have hle := trimN_le (odg (atL a) (atL b)) n
  obtain ⟨m, hm⟩ : ∃ m, trimN (odg (atL a) (atL b)) n = m := ⟨_, rfl⟩
  rw [hm] at hto hrt hle
  have z1 : brw (atL a) (atL b) 0 = 0 := rfl
  have z2 : rowF (odg (atL a) (atL b)) 0 = [] := rfl
  refine Gives.enter tabOk Try.func56 rfl (by show 2 ≤ 41; decide) ?_
  simp only [Try.f56]
  refine WpC.seq (WpC.ops tabOk (r := []) (by simp -implicitDefEqProofs [hn, z1, z2, hle] <;> rfl) rfl ?_)
  refine WpC.seq (WpC.ops tabOk (r := []) (by simp -implicitDefEqProofs [hn, z1, z2, hle] <;> rfl) rfl ?_)
  refine WpC.gh (Gh.nilArr 3 1 (t := 5) (by simp) (by simp)) ?_
  refine WpC.seq (WpC.ops tabOk (r := []) (by simp -implicitDefEqProofs [hn, z1, z2, hle] <;> rfl) rfl ?_)
  refine WpC.seq ?_
  refine WpC.seq (WpC.ops tabOk (r := []) (by simp -implicitDefEqProofs [hn, z1, z2, hle] <;> rfl) rfl ?_)
  refine WpC.block ?_
  refine WpC.loopK [0, 1] [5, 6, 7] (n) (() : Unit) (fun k _ => [(5, .sl 0 k), (6, .d (dI (brw (atL a) (atL b) k))), (7, .d (.int .i64 k))]) (fun k _ => [.arr 3 1 (rowF (odg (atL a) (atL b)) k)]) (fun k _ => True) (by simp -implicitDefEqProofs [hn, z1, z2, hle] <;> rfl) (Gh.cut' [5, 6, 7, 0, 1] 1 (by simp -implicitDefEqProofs [hn, z1, z2, hle]) (by simp -implicitDefEqProofs [hn, z1, z2, hle]) rfl (by simp) (by simp) (by simp)) (by simp) ?_
  rintro k ⟨⟩ hk hi
  simp only [List.cons_append, List.nil_append]
  refine WpC.seq ?_
  refine WpC.seq (WpC.ops tabOk (r := []) (by simp -implicitDefEqProofs [hn, z1, z2, hle] <;> rfl) rfl ?_)
  refine WpC.condD (k < n) (by simp -implicitDefEqProofs [hn, z1, z2, hle] <;> omega) (fun hlt => ?_) (fun hge => ?_)
  · refine WpC.skip ?_
    have hkl : k < a.length := by omega
    obtain ⟨u, hu⟩ : ∃ u, a[k] = u := ⟨_, rfl⟩
    have hua : u = atL a k := by rw [← hu, atL_at hkl]
    have hbb := brw_b (atL a) (atL b) k
    have u1 := b1 k
    have u2 := b2 k
    have hst := rowF_snoc (odg (atL a) (atL b)) k
    have hbs : brw (atL a) (atL b) (k + 1) = if ddg (atL a) (atL b) k < 0 then 1 else 0 := rfl
    have hdd : ddg (atL a) (atL b) k = u - brw (atL a) (atL b) k - atL b k := by rw [hua]; rfl
    have hod : odg (atL a) (atL b) k = if ddg (atL a) (atL b) k < 0 then ddg (atL a) (atL b) k + 10 else ddg (atL a) (atL b) k := rfl
    rw [hod] at hst
    obtain ⟨c, hc⟩ : ∃ c, brw (atL a) (atL b) k = c := ⟨_, rfl⟩
    obtain ⟨dd, hd2⟩ : ∃ c, ddg (atL a) (atL b) k = c := ⟨_, rfl⟩
    rw [hc] at hbb hdd
    rw [hd2] at hdd hbs hst
    have hw1 : IntKind.i64.wrap (u - c) = u - c := wrapI (by omega) (by omega)
    have hks : k ≤ 8589934591 := by omega
    have hkw : IntKind.i64.wrap ((k : Int) + 1) = k + 1 := wrapI (by omega) (by omega)
    have hk10 : IntKind.i64.wrap (dd + 10) = dd + 10 := wrapI (by omega) (by omega)
    refine WpC.seq ?_
    refine WpC.block ?_
    refine WpC.seq (WpC.ops tabOk (r := []) (by simp -implicitDefEqProofs [hn, z1, z2, hle, hlt, hkl, hu, hc, hw1, hks, hkw, hk10] <;> rfl) rfl ?_)
    refine WpC.seq ?_
    refine WpC.seq (WpC.ops tabOk (r := []) (by simp -implicitDefEqProofs [hn, z1, z2, hle, hlt, hkl, hu, hc, hw1, hks, hkw, hk10] <;> rfl) rfl ?_)
    refine WpC.join ⟨[(0, .d (.list 1 (a.map dI))), (1, .d (.list 1 (b.map dI))), (5, .sl 0 k), (7, .d (dI k)), (8, .d (dI dd))], [.arr 3 1 (rowF (odg (atL a) (atL b)) k)], 41, 0⟩ ?_ ?_
    · refine WpC.condD ((k : Int) < b.length) (by simp -implicitDefEqProofs [hn, z1, z2, hle, hlt, hkl, hu, hc, hw1, hks, hkw, hk10]) (fun d24 => ?_) (fun d24 => ?_)
      · have hkb : k < b.length := by omega
        obtain ⟨v, hv⟩ : ∃ v, b[k] = v := ⟨_, rfl⟩
        have hvb : atL b k = v := by rw [← hv, atL_at hkb]
        have hw2 : IntKind.i64.wrap (u - c - v) = dd := by rw [wrapI (by omega) (by omega)]; omega
        refine WpC.ops tabOk (r := []) (by simp -implicitDefEqProofs [hn, z1, z2, hle, hlt, hkl, hu, hc, hw1, hks, hkw, hk10, d24, hkb, hv, hw2] <;> rfl) rfl ?_
        exact ⟨rfl, Gh.cut' [0, 1, 5, 7, 8] 1 (by simp -implicitDefEqProofs [hn, z1, z2, hle, hlt, hkl, hu, hc, hw1, hks, hkw, hk10, d24, hkb, hv, hw2]) (by simp -implicitDefEqProofs [hn, z1, z2, hle, hlt, hkl, hu, hc, hw1, hks, hkw, hk10, d24, hkb, hv, hw2]) rfl (by simp) (by simp) (by simp)⟩
      · have hvb : atL b k = 0 := by unfold atL; rw [List.getElem?_eq_none (by omega)]; rfl
        have hw2 : u - c = dd := by omega
        refine WpC.skip ?_
        exact ⟨rfl, Gh.cut' [0, 1, 5, 7, 8] 1 (by simp -implicitDefEqProofs [hn, z1, z2, hle, hlt, hkl, hu, hc, hw1, hks, hkw, hk10, d24, hw2]) (by simp -implicitDefEqProofs [hn, z1, z2, hle, hlt, hkl, hu, hc, hw1, hks, hkw, hk10, d24, hw2]) rfl (by simp) (by simp) (by simp)⟩
    · refine WpC.seq (WpC.ops tabOk (r := []) (by simp -implicitDefEqProofs [hn, z1, z2, hle, hlt, hkl, hu, hc, hw1, hks, hkw, hk10] <;> rfl) rfl ?_)
      refine WpC.seq ?_
      refine WpC.seq (WpC.ops tabOk (r := []) (by simp -implicitDefEqProofs [hn, z1, z2, hle, hlt, hkl, hu, hc, hw1, hks, hkw, hk10] <;> rfl) rfl ?_)
      refine WpC.condD (dd < 0) (by simp -implicitDefEqProofs [hn, z1, z2, hle, hlt, hkl, hu, hc, hw1, hks, hkw, hk10]) (fun d32 => ?_) (fun d32 => ?_)
      · refine WpC.seq (WpC.ops tabOk (r := []) (by simp -implicitDefEqProofs [hn, z1, z2, hle, hlt, hkl, hu, hc, hw1, hks, hkw, hk10, d32] <;> rfl) rfl ?_)
        refine WpC.ops tabOk (r := []) (by simp -implicitDefEqProofs [hn, z1, z2, hle, hlt, hkl, hu, hc, hw1, hks, hkw, hk10, d32] <;> rfl) rfl ?_
        refine WpC.ops tabOk (r := []) (by simp -implicitDefEqProofs [hn, z1, z2, hle, hlt, hkl, hu, hc, hw1, hks, hkw, hk10, d32] <;> rfl) rfl ?_
        refine WpC.ops tabOk (r := []) (by simp -implicitDefEqProofs [hn, z1, z2, hle, hlt, hkl, hu, hc, hw1, hks, hkw, hk10, d32] <;> rfl) rfl ?_
        exact ⟨hlt, (), trivial, Gh.pick [5, 6, 7, 0, 1] [2] (by simp -implicitDefEqProofs [hn, z1, z2, hle, hlt, hkl, hu, hc, hw1, hks, hkw, hk10, d32, hst, hbs]; rfl) (by simp -implicitDefEqProofs [hn, z1, z2, hle, hlt, hkl, hu, hc, hw1, hks, hkw, hk10, d32, hst, hbs]) (by simp) (by simp) (by simp; rfl) (by simp -implicitDefEqProofs [hn, z1, z2, hle, hlt, hkl, hu, hc, hw1, hks, hkw, hk10, d32, hst, hbs]) (by simp)⟩
      · refine WpC.skip ?_
        refine WpC.ops tabOk (r := []) (by simp -implicitDefEqProofs [hn, z1, z2, hle, hlt, hkl, hu, hc, hw1, hks, hkw, hk10, d32] <;> rfl) rfl ?_
        refine WpC.ops tabOk (r := []) (by simp -implicitDefEqProofs [hn, z1, z2, hle, hlt, hkl, hu, hc, hw1, hks, hkw, hk10, d32] <;> rfl) rfl ?_
        exact ⟨hlt, (), trivial, Gh.pick [5, 6, 7, 0, 1] [2] (by simp -implicitDefEqProofs [hn, z1, z2, hle, hlt, hkl, hu, hc, hw1, hks, hkw, hk10, d32, hst, hbs]; rfl) (by simp -implicitDefEqProofs [hn, z1, z2, hle, hlt, hkl, hu, hc, hw1, hks, hkw, hk10, d32, hst, hbs]) (by simp) (by simp) (by simp; rfl) (by simp -implicitDefEqProofs [hn, z1, z2, hle, hlt, hkl, hu, hc, hw1, hks, hkw, hk10, d32, hst, hbs]) (by simp)⟩
  · refine WpC.exit ?_
    have hkn : n = k := by omega
    subst hkn
    refine WpC.seq ?_
    refine WpC.region ?_
    refine WpO.run tabOk 1 (by simp -implicitDefEqProofs [hn, z1, z2, hle] <;> first | exact ⟨rfl, rfl⟩ | rfl) ?_
    refine WpO.callP [0] (by simp) rfl (by simp -implicitDefEqProofs [hn, z1, z2, hle] <;> rfl) (by simp -implicitDefEqProofs [hn, z1, z2, hle] <;> rfl) call_54 (by simp) (by simp) (by simp) (by simp -implicitDefEqProofs [hn, z1, z2, hle]) (by simp; rfl) (by simp -implicitDefEqProofs [hn, z1, z2, hle]) ( hto) fun r S1 hr => ?_
    obtain ⟨rfl, rfl⟩ := hr
    refine ⟨_, by simp -implicitDefEqProofs [hn, z1, z2, hle] <;> rfl, ?_⟩
    refine WpO.run tabOk 1 (by simp -implicitDefEqProofs [hn, z1, z2, hle] <;> first | exact ⟨rfl, rfl⟩ | rfl) ?_
    refine WpO.nil ?_
    refine WpC.ret ?_
    try simp only [blockQ, seqQ]
    refine retD_i (by simp -implicitDefEqProofs [hn, z1, z2, hle] <;> rfl) (by simp -implicitDefEqProofs [hn, z1, z2, hle] <;> rfl) ?_
    simp [hrt]
theorem rep_row (n : Nat) : List.replicate n (D.int .i64 0) = rowF (fun _ => 0) n := by
  apply List.ext_getElem?
  intro i
  by_cases hi : i < n
  · rw [rowF_get hi, List.getElem?_replicate, if_pos hi]
  · rw [List.getElem?_eq_none (by simp; omega), List.getElem?_eq_none (by simp; omega)]
theorem valF_none : ∀ n, valF (fun _ => 0) n = 0
  | 0 => rfl
  | n + 1 => by rw [valF_succ, valF_none n]; simp
theorem upd_get (g : Nat → Int) (i : Nat) (x : Int) (j : Nat) : upd g i x j = if j = i then x else g j := rfl
/-- While a product is added up: la, lb digits, i rows are done, of the next one k. -/
structure MuI (a b : Nat → Int) (lb n i k : Nat) (g : Nat → Int) : Prop where
  lo : ∀ j, 0 ≤ g j ∧ g j ≤ 81 * i + 81
  hi : ∀ j, i + k ≤ j → g j ≤ 81 * i
  val : valF g n = valF a i * valF b lb + a i * 10 ^ i * valF b k
theorem MuI.zero (a b : Nat → Int) (lb n : Nat) : MuI a b lb n 0 0 (fun _ => 0) := ⟨fun j => by omega, fun j _ => by omega, by rw [valF_none]; simp [valF]⟩
theorem MuI.step {a b : Nat → Int} {lb n i k : Nat} {g : Nat → Int} (ha : ∀ i, 0 ≤ a i ∧ a i ≤ 9) (hb : ∀ i, 0 ≤ b i ∧ b i ≤ 9) (h : MuI a b lb n i k g) (hn : i + k < n) : MuI a b lb n i (k + 1) (upd g (i + k) (g (i + k) + a i * b k)) := by
  have h1 : 0 ≤ a i * b k := Int.mul_nonneg (ha i).1 (hb k).1
  have h2 : a i * b k ≤ 9 * 9 := Int.mul_le_mul (ha i).2 (hb k).2 (hb k).1 (by decide)
  have h3 := h.lo (i + k)
  have h4 := h.hi (i + k) (Nat.le_refl _)
  refine ⟨fun j => ?_, fun j hj => ?_, ?_⟩
  · rw [upd_get]
    split
    · omega
    · exact h.lo j
  · rw [upd_get, if_neg (by omega)]; exact h.hi j (by omega)
  · rw [valF_upd _ _ hn, h.val, valF_succ, Int.mul_add, Int.pow_add]
    have e : g (i + k) + a i * b k - g (i + k) = a i * b k := by omega
    rw [e, Int.add_assoc]
    congr 2
    rw [Int.mul_assoc, Int.mul_assoc, Int.mul_left_comm (b k), Int.mul_comm (b k)]
theorem MuI.next {a b : Nat → Int} {lb n i : Nat} {g : Nat → Int} (h : MuI a b lb n i lb g) : MuI a b lb n (i + 1) 0 g := by
  refine ⟨fun j => by have := h.lo j; omega, fun j _ => by have := h.lo j; omega, ?_⟩
  rw [h.val, valF_succ, Int.add_mul]
  simp [valF]
/-- While what is above 9 is carried. -/
structure CaI (X : Int) (B : Int) (n i : Nat) (g : Nat → Int) : Prop where
  dn : ∀ j, j < i → 0 ≤ g j ∧ g j ≤ 9
  at_ : 0 ≤ g i ∧ g i ≤ 2 * B
  up : ∀ j, i < j → 0 ≤ g j ∧ g j ≤ B
  val : valF g n = X
theorem CaI.step {X B : Int} {n i : Nat} {g : Nat → Int} (h : CaI X B n i g) (hn : i + 1 < n) : CaI X B n (i + 1) (upd (upd g (i + 1) (g (i + 1) + g i / 10)) i (g i % 10)) := by
  have h1 := h.at_
  have h2 := h.up (i + 1) (by omega)
  refine ⟨fun j hj => ?_, ?_, fun j hj => ?_, ?_⟩
  · rw [upd_get]
    split
    · omega
    · rw [upd_get, if_neg (by omega)]; exact h.dn j (by omega)
  · rw [upd_get, if_neg (by omega), upd_get, if_pos rfl]; omega
  · rw [upd_get, if_neg (by omega), upd_get, if_neg (by omega)]; exact h.up j (by omega)
  · rw [carry_val g hn h1.1, h.val]
theorem CaI.end {X B : Int} {n : Nat} {g : Nat → Int} (h : CaI X B (n + 1) n g) (hX : X < 10 ^ n) : ∀ i, i < n + 1 → 0 ≤ g i ∧ g i ≤ 9 := fun i hi => by
  by_cases e : i = n
  · subst e
    have := last_zero (fun j hj => (h.dn j hj).1) h.at_.1 h.val hX
    omega
  · exact h.dn i (by omega)
def signB (m1 m2 : Bool) (x : Nat) : Bool := m1 != m2 && decide (0 < x)
theorem mul_lt (x y : Nat) : ((x * y : Nat) : Int) < 10 ^ ((dgs x).length + (dgs y).length) := by
  have h1 := @dgs_lt x
  have h2 := @dgs_lt y
  have : x * y < 10 ^ ((dgs x).length + (dgs y).length) := by
    rw [Nat.pow_add]
    exact Nat.mul_lt_mul'' h1 h2
  exact_mod_cast this
set_option maxHeartbeats 4000000 in
theorem mulB_okB (m1 m2 : Bool) (x y : Nat) (hx : (dgs x).length ≤ 1000) (hy : (dgs y).length ≤ 1000) : Gives Try.prog 52 [.d (encB m1 x), .d (encB m2 y)] (.d (encB (signB m1 m2 (x * y)) (x * y))) := by
  have hva := valF_dgs x
  have hvb := valF_dgs y
  have hlt := mul_lt x y
  have hdg : (dgs (x * y)).length = 0 ↔ x * y = 0 := dgs_nil
  have b1 := atL_dgs x
  have b2 := atL_dgs y
  unfold encB
  obtain ⟨X, hX⟩ : ∃ X, x * y = X := ⟨_, rfl⟩
  have hXv : (X : Int) = x * y := by rw [← hX]; simp
  rw [hX] at hlt hdg ⊢
  obtain ⟨a, ha⟩ : ∃ a, dgs x = a := ⟨_, rfl⟩
  obtain ⟨b, hb⟩ : ∃ b, dgs y = b := ⟨_, rfl⟩
  rw [ha] at hva b1 hx hlt ⊢
  rw [hb] at hvb b2 hy hlt ⊢
  obtain ⟨la, hla⟩ : ∃ n, a.length = n := ⟨_, rfl⟩
  obtain ⟨lb, hlb⟩ : ∃ n, b.length = n := ⟨_, rfl⟩
  rw [hla] at hva hx hlt
  rw [hlb] at hvb hy hlt
  obtain ⟨n, hn⟩ : ∃ n, la + lb = n := ⟨_, rfl⟩
  rw [hn] at hlt
  obtain ⟨N, hN⟩ : ∃ N, n + 1 = N := ⟨_, rfl⟩
  have hw0 : IntKind.i64.wrap ((la : Int) + lb) = n := by rw [wrapI (by omega) (by omega)]; omega
  have hw1 : IntKind.i64.wrap ((n : Int) + 1) = N := by rw [wrapI (by omega) (by omega)]; omega
  have hnn : (N : Int) ≤ 8589934592 := by omega
  have hnn2 : N ≤ 8589934592 := by omega
  have hN2 : N ≤ 10000 := by omega
  have hrep := rep_row N
  refine Gives.enter tabOk Try.func52 rfl (by show 2 ≤ 92; decide) ?_
  simp only [Try.f52]
  refine WpC.seq (WpC.ops tabOk (r := []) (by simp -implicitDefEqProofs [hla, hlb, hw0, hw1, hnn, hnn2, hrep] <;> rfl) rfl ?_)
  refine WpC.seq (WpC.ops tabOk (r := []) (by simp -implicitDefEqProofs [hla, hlb, hw0, hw1, hnn, hnn2, hrep] <;> rfl) rfl ?_)
  refine WpC.seq ?_
  refine WpC.seq (WpC.ops tabOk (r := []) (by simp -implicitDefEqProofs [hla, hlb, hw0, hw1, hnn, hnn2, hrep] <;> rfl) rfl ?_)
  refine WpC.block ?_
  refine WpC.loopK [2, 3, 4, 5] [6] (la) (fun _ => 0 : Nat → Int) (fun k h => [(6, .d (.int .i64 k))]) (fun k h => [.cells 77 [.d (.bool m1), .d (.list 1 (a.map dI))], .cells 77 [.d (.bool m2), .d (.list 1 (b.map dI))], .cells 77 [.d (.bool false), .d .nil], .arr 3 1 (rowF h N)]) (fun k h => MuI (atL a) (atL b) lb N k 0 h) (by simp -implicitDefEqProofs [hla, hlb, hw0, hw1, hnn, hnn2, hrep] <;> rfl) (Gh.cut' [6, 2, 3, 4, 5] 4 (by simp -implicitDefEqProofs [hla, hlb, hw0, hw1, hnn, hnn2, hrep]) (by simp -implicitDefEqProofs [hla, hlb, hw0, hw1, hnn, hnn2, hrep]) rfl (by simp) (by simp) (by simp)) (MuI.zero _ _ _ _) ?_
  rintro k h hk hi
  simp only [List.cons_append, List.nil_append]
  refine WpC.seq ?_
  refine WpC.seq (WpC.ops tabOk (r := []) (by simp -implicitDefEqProofs [hla, hlb, hw0, hw1, hnn, hnn2, hrep] <;> rfl) rfl ?_)
  refine WpC.condD (k < la) (by simp -implicitDefEqProofs [hla, hlb, hw0, hw1, hnn, hnn2, hrep] <;> omega) (fun hlt => ?_) (fun hge => ?_)
  · refine WpC.skip ?_
    have hi0 := hi
    obtain ⟨i, rfl⟩ : ∃ i, i = k := ⟨k, rfl⟩
    have hil : i < la := hlt
    have hia : i < a.length := by omega
    obtain ⟨u, hu⟩ : ∃ u, a[i] = u := ⟨_, rfl⟩
    have hua : atL a i = u := by rw [← hu, atL_at hia]
    have hub := b1 i
    have hkw : IntKind.i64.wrap ((i : Int) + 1) = i + 1 := wrapI (by omega) (by omega)
    rw [hua] at hub
    refine WpC.seq ?_
    refine WpC.block ?_
    refine WpC.seq (WpC.ops tabOk (r := []) (by simp -implicitDefEqProofs [hla, hlb, hw0, hw1, hnn, hnn2, hrep, hlt, hil, hia, hu, hkw] <;> rfl) rfl ?_)
    refine WpC.block ?_
    refine WpC.loopK [2, 3, 4, 5, 6] [7] (lb) (h : Nat → Int) (fun k hh => [(7, .d (.int .i64 k))]) (fun k hh => [.cells 77 [.d (.bool m1), .d (.list 1 (a.map dI))], .cells 77 [.d (.bool m2), .d (.list 1 (b.map dI))], .cells 77 [.d (.bool false), .d .nil], .arr 3 1 (rowF hh N)]) (fun k hh => MuI (atL a) (atL b) lb N i k hh) (by simp -implicitDefEqProofs [hla, hlb, hw0, hw1, hnn, hnn2, hrep, hlt, hil, hia, hu, hkw] <;> rfl) (Gh.cut' [7, 2, 3, 4, 5, 6] 4 (by simp -implicitDefEqProofs [hla, hlb, hw0, hw1, hnn, hnn2, hrep, hlt, hil, hia, hu, hkw]) (by simp -implicitDefEqProofs [hla, hlb, hw0, hw1, hnn, hnn2, hrep, hlt, hil, hia, hu, hkw]) rfl (by simp) (by simp) (by simp)) (hi0) ?_
    rintro k hh hk hi
    simp only [List.cons_append, List.nil_append]
    have hi1 := hi
    refine WpC.seq ?_
    refine WpC.seq (WpC.ops tabOk (r := []) (by simp -implicitDefEqProofs [hla, hlb, hw0, hw1, hnn, hnn2, hrep, hlt, hil, hia, hu, hkw] <;> rfl) rfl ?_)
    refine WpC.condD (k < lb) (by simp -implicitDefEqProofs [hla, hlb, hw0, hw1, hnn, hnn2, hrep, hlt, hil, hia, hu, hkw] <;> omega) (fun hlt => ?_) (fun hge => ?_)
    · refine WpC.skip ?_
      have hkb : k < b.length := by omega
      obtain ⟨v, hv⟩ : ∃ v, b[k] = v := ⟨_, rfl⟩
      have hvb : atL b k = v := by rw [← hv, atL_at hkb]
      have hvB := b2 k
      have hst := hi1.step b1 b2 (show i + k < N by omega)
      obtain ⟨q, hq⟩ : ∃ q, i + k = q := ⟨_, rfl⟩
      have hg := hi1.lo q
      rw [hvb] at hvB
      rw [hua, hvb, hq] at hst
      obtain ⟨G, hG⟩ : ∃ G, hh q = G := ⟨_, rfl⟩
      rw [hG] at hst hg
      have p1 : 0 ≤ u * v := Int.mul_nonneg hub.1 hvB.1
      have p2 : u * v ≤ 9 * 9 := Int.mul_le_mul hub.2 hvB.2 hvB.1 (by decide)
      obtain ⟨uv, huv⟩ : ∃ z, u * v = z := ⟨_, rfl⟩
      rw [huv] at hst p1 p2
      have hqN : q < N := by omega
      have w1 : IntKind.i64.wrap ((i : Int) + k) = q := by rw [wrapI (by omega) (by omega)]; omega
      have w2 : IntKind.i64.wrap uv = uv := wrapI (by omega) (by omega)
      have w3 : IntKind.i64.wrap (G + uv) = G + uv := wrapI (by omega) (by omega)
      have hkw2 : IntKind.i64.wrap ((k : Int) + 1) = k + 1 := wrapI (by omega) (by omega)
      refine WpC.seq ?_
      refine WpC.block ?_
      refine WpC.drawn tabOk (by kernel_rfl) 0 (by simp) ?_
      refine DrO.run (fz := []) 3 (by simp -implicitDefEqProofs [hla, hlb, hw0, hw1, hnn, hnn2, hrep, hlt, hil, hia, hu, hkw, hlt, hkb, hv, hqN, w1, w2, w3, hkw2, huv, hG] <;> first | exact ⟨rfl, rfl, rfl, rfl⟩ | rfl) ?_
      refine DrO.run (fz := []) 3 (by simp -implicitDefEqProofs [hla, hlb, hw0, hw1, hnn, hnn2, hrep, hlt, hil, hia, hu, hkw, hlt, hkb, hv, hqN, w1, w2, w3, hkw2, huv, hG] <;> first | exact ⟨rfl, rfl, rfl, rfl⟩ | rfl) ?_
      refine DrO.run (fz := []) 3 (by simp -implicitDefEqProofs [hla, hlb, hw0, hw1, hnn, hnn2, hrep, hlt, hil, hia, hu, hkw, hlt, hkb, hv, hqN, w1, w2, w3, hkw2, huv, hG] <;> first | exact ⟨rfl, rfl, rfl, rfl⟩ | rfl) ?_
      refine DrO.run (fz := []) 3 (by simp -implicitDefEqProofs [hla, hlb, hw0, hw1, hnn, hnn2, hrep, hlt, hil, hia, hu, hkw, hlt, hkb, hv, hqN, w1, w2, w3, hkw2, huv, hG] <;> first | exact ⟨rfl, rfl, rfl, rfl⟩ | rfl) ?_
      refine DrO.run (fz := []) 3 (by simp -implicitDefEqProofs [hla, hlb, hw0, hw1, hnn, hnn2, hrep, hlt, hil, hia, hu, hkw, hlt, hkb, hv, hqN, w1, w2, w3, hkw2, huv, hG] <;> first | exact ⟨rfl, rfl, rfl, rfl⟩ | rfl) ?_
      refine DrO.run (fz := []) 3 (by simp -implicitDefEqProofs [hla, hlb, hw0, hw1, hnn, hnn2, hrep, hlt, hil, hia, hu, hkw, hlt, hkb, hv, hqN, w1, w2, w3, hkw2, huv, hG] <;> first | exact ⟨rfl, rfl, rfl, rfl⟩ | rfl) ?_
      refine DrO.run (fz := []) 2 (by simp -implicitDefEqProofs [hla, hlb, hw0, hw1, hnn, hnn2, hrep, hlt, hil, hia, hu, hkw, hlt, hkb, hv, hqN, w1, w2, w3, hkw2, huv, hG] <;> first | exact ⟨rfl, rfl, rfl, rfl⟩ | rfl) ?_
      refine DrO.nil ⟨by kernel_rfl, ?_⟩
      refine WpC.ops tabOk (r := []) (by simp -implicitDefEqProofs [hla, hlb, hw0, hw1, hnn, hnn2, hrep, hlt, hil, hia, hu, hkw, hlt, hkb, hv, hqN, w1, w2, w3, hkw2, huv, hG] <;> rfl) rfl ?_
      exact ⟨hlt, upd hh q (G + uv), hst, Gh.cut' [7, 2, 3, 4, 5, 6] 4 (by simp -implicitDefEqProofs [hla, hlb, hw0, hw1, hnn, hnn2, hrep, hlt, hil, hia, hu, hkw, hlt, hkb, hv, hqN, w1, w2, w3, hkw2, huv, hG]) (by simp -implicitDefEqProofs [hla, hlb, hw0, hw1, hnn, hnn2, hrep, hlt, hil, hia, hu, hkw, hlt, hkb, hv, hqN, w1, w2, w3, hkw2, huv, hG]) rfl (by simp) (by simp) (by simp)⟩
    · refine WpC.exit ?_
      have hkn : k = lb := by omega
      subst hkn
      have hi' := hi1
      refine WpC.ops tabOk (r := []) (by simp -implicitDefEqProofs [hla, hlb, hw0, hw1, hnn, hnn2, hrep, hlt, hil, hia, hu, hkw] <;> rfl) rfl ?_
      exact ⟨hlt, hh, hi'.next, Gh.cut' [6, 2, 3, 4, 5] 4 (by simp -implicitDefEqProofs [hla, hlb, hw0, hw1, hnn, hnn2, hrep, hlt, hil, hia, hu, hkw]) (by simp -implicitDefEqProofs [hla, hlb, hw0, hw1, hnn, hnn2, hrep, hlt, hil, hia, hu, hkw]) rfl (by simp) (by simp) (by simp)⟩
  · refine WpC.exit ?_
    have hka : k = la := by omega
    subst hka
    obtain ⟨hend, rfl⟩ : ∃ z, z = h := ⟨h, rfl⟩
    have hca : CaI X 100000 N 0 hend := by
      refine ⟨fun j hj => by omega, ?_, fun j _ => ?_, ?_⟩
      · have := hi.lo 0
        have := hi.hi 0
        omega
      · have := hi.lo j
        omega
      · rw [hi.val, hva, hvb, hXv]; simp [valF]
    refine WpC.seq ?_
    refine WpC.seq (WpC.ops tabOk (r := []) (by simp -implicitDefEqProofs [hla, hlb, hw0, hw1, hnn, hnn2, hrep] <;> rfl) rfl ?_)
    refine WpC.block ?_
    refine WpC.loopM [2, 3, 4, 5] [8] (fun c => n - c.1) ((0, hend) : Nat × (Nat → Int)) (fun c => [(8, .d (dI (c.1 : Nat)))]) (fun c => [.cells 77 [.d (.bool m1), .d (.list 1 (a.map dI))], .cells 77 [.d (.bool m2), .d (.list 1 (b.map dI))], .cells 77 [.d (.bool false), .d .nil], .arr 3 1 (rowF c.2 N)]) (fun c => c.1 ≤ n ∧ CaI X 100000 N c.1 c.2) (by simp -implicitDefEqProofs [hla, hlb, hw0, hw1, hnn, hnn2, hrep] <;> rfl) (Gh.cut' [8, 2, 3, 4, 5] 4 (by simp -implicitDefEqProofs [hla, hlb, hw0, hw1, hnn, hnn2, hrep]) (by simp -implicitDefEqProofs [hla, hlb, hw0, hw1, hnn, hnn2, hrep]) rfl (by simp) (by simp) (by simp)) (⟨by simp, hca⟩) ?_
    rintro c hi
    simp only [List.cons_append, List.nil_append]
    obtain ⟨i, g⟩ := c
    obtain ⟨h1, h2⟩ := hi
    simp only at h1 h2 ⊢
    have hw2 : IntKind.i64.wrap ((i : Int) + 1) = (i : Int) + 1 := wrapI (by omega) (by omega)
    refine WpC.seq ?_
    refine WpC.seq (WpC.ops tabOk (r := []) (by simp -implicitDefEqProofs [hla, hlb, hw0, hw1, hnn, hnn2, hrep, hw2] <;> rfl) rfl ?_)
    refine WpC.condD ((i : Int) + 1 < N) (by simp -implicitDefEqProofs [hla, hlb, hw0, hw1, hnn, hnn2, hrep, hw2]) (fun d55 => ?_) (fun d55 => ?_)
    · have hin : i + 1 < N := by omega
      have hi0N : i < N := by omega
      have hst := h2.step hin
      have h3 := h2.at_
      have h4 := h2.up (i + 1) (by omega)
      obtain ⟨U, hU⟩ : ∃ U, g (i + 1) = U := ⟨_, rfl⟩
      obtain ⟨V, hV⟩ : ∃ U, g i = U := ⟨_, rfl⟩
      rw [hU, hV] at hst
      rw [hU] at h4
      rw [hV] at h3
      obtain ⟨t, ht⟩ : ∃ t, V / 10 = t := ⟨_, rfl⟩
      obtain ⟨r, hr⟩ : ∃ t, V % 10 = t := ⟨_, rfl⟩
      rw [ht, hr] at hst
      have d1 : V.tdiv 10 = t := by rw [Int.tdiv_eq_ediv_of_nonneg h3.1, ht]
      have d2 : V.tmod 10 = r := by rw [Int.tmod_eq_emod_of_nonneg h3.1, hr]
      have v1 : IntKind.i64.wrap t = t := wrapI (by omega) (by omega)
      have v2 : IntKind.i64.wrap (U + t) = U + t := wrapI (by omega) (by omega)
      have v3 : (i : Int) + 1 < N := by omega
      have v4 : upd g (i + 1) (U + t) i = V := by rw [upd_get, if_neg (by omega), hV]
      have v5 : (0 : Int) ≤ (i : Int) + 1 := by omega
      refine WpC.skip ?_
      refine WpC.seq ?_
      refine WpC.block ?_
      refine WpC.seq (WpC.drawn tabOk (by kernel_rfl) 0 (by simp) ?_)
      refine DrO.run (fz := []) 3 (by simp -implicitDefEqProofs [hla, hlb, hw0, hw1, hnn, hnn2, hrep, hw2, d55, hin, hi0N, hU, hV, d1, d2, v1, v2, v4, v5] <;> first | exact ⟨rfl, rfl, rfl, rfl⟩ | rfl) ?_
      refine DrO.run (fz := []) 3 (by simp -implicitDefEqProofs [hla, hlb, hw0, hw1, hnn, hnn2, hrep, hw2, d55, hin, hi0N, hU, hV, d1, d2, v1, v2, v4, v5] <;> first | exact ⟨rfl, rfl, rfl, rfl⟩ | rfl) ?_
      refine DrO.run (fz := []) 3 (by simp -implicitDefEqProofs [hla, hlb, hw0, hw1, hnn, hnn2, hrep, hw2, d55, hin, hi0N, hU, hV, d1, d2, v1, v2, v4, v5] <;> first | exact ⟨rfl, rfl, rfl, rfl⟩ | rfl) ?_
      refine DrO.run (fz := []) 3 (by simp -implicitDefEqProofs [hla, hlb, hw0, hw1, hnn, hnn2, hrep, hw2, d55, hin, hi0N, hU, hV, d1, d2, v1, v2, v4, v5] <;> first | exact ⟨rfl, rfl, rfl, rfl⟩ | rfl) ?_
      refine DrO.run (fz := []) 1 (by simp -implicitDefEqProofs [hla, hlb, hw0, hw1, hnn, hnn2, hrep, hw2, d55, hin, hi0N, hU, hV, d1, d2, v1, v2, v4, v5] <;> first | exact ⟨rfl, rfl, rfl, rfl⟩ | rfl) ?_
      refine DrO.nil ⟨by kernel_rfl, ?_⟩
      refine WpC.ops tabOk (r := []) (by simp -implicitDefEqProofs [hla, hlb, hw0, hw1, hnn, hnn2, hrep, hw2, d55, hin, hi0N, hU, hV, d1, d2, v1, v2, v4, v5] <;> rfl) rfl ?_
      refine WpC.ops tabOk (r := []) (by simp -implicitDefEqProofs [hla, hlb, hw0, hw1, hnn, hnn2, hrep, hw2, d55, hin, hi0N, hU, hV, d1, d2, v1, v2, v4, v5] <;> rfl) rfl ?_
      exact ⟨(i + 1, upd (upd g (i + 1) (U + t)) i r), ⟨by simp; omega, hst⟩, by simp; omega, Gh.cut' [8, 2, 3, 4, 5] 4 (by simp -implicitDefEqProofs [hla, hlb, hw0, hw1, hnn, hnn2, hrep, hw2, d55, hin, hi0N, hU, hV, d1, d2, v1, v2, v4, v5]) (by simp -implicitDefEqProofs [hla, hlb, hw0, hw1, hnn, hnn2, hrep, hw2, d55, hin, hi0N, hU, hV, d1, d2, v1, v2, v4, v5]) rfl (by simp) (by simp) (by simp)⟩
    · have hie : i = n := by omega
      subst hie
      rw [← hN] at h2
      have hdig := h2.end hlt
      rw [hN] at hdig h2
      have hrt := row_trim hdig h2.val
      have hto := trim_ok g N (by omega)
      have hle := trimN_le g N
      have htl : trimN g N = 0 ↔ X = 0 := by
        rw [← hdg, ← trim_dgs hdig h2.val, listF_len]
      obtain ⟨m, hm⟩ : ∃ m, trimN g N = m := ⟨_, rfl⟩
      rw [hm] at hto hle hrt htl
      have hsg : signB m1 m2 X = (m1 != m2 && decide (0 < m)) := by
        unfold signB
        congr 1
        rw [decide_eq_decide]; omega
      refine WpC.exit ?_
      refine WpC.seq ?_
      refine WpC.region ?_
      refine WpO.run tabOk 1 (by simp -implicitDefEqProofs [hla, hlb, hw0, hw1, hnn, hnn2, hrep, hw2, d55] <;> first | exact ⟨rfl, rfl⟩ | rfl) ?_
      refine WpO.callP [3] (by simp) rfl (by simp -implicitDefEqProofs [hla, hlb, hw0, hw1, hnn, hnn2, hrep, hw2, d55] <;> rfl) (by simp -implicitDefEqProofs [hla, hlb, hw0, hw1, hnn, hnn2, hrep, hw2, d55] <;> rfl) call_54 (by simp) (by simp) (by simp) (by simp -implicitDefEqProofs [hla, hlb, hw0, hw1, hnn, hnn2, hrep, hw2, d55]) (by simp; rfl) (by simp -implicitDefEqProofs [hla, hlb, hw0, hw1, hnn, hnn2, hrep, hw2, d55]) ( hto) fun r S1 hr => ?_
      obtain ⟨rfl, rfl⟩ := hr
      refine ⟨_, by simp -implicitDefEqProofs [hla, hlb, hw0, hw1, hnn, hnn2, hrep, hw2, d55] <;> rfl, ?_⟩
      refine WpO.run tabOk 1 (by simp -implicitDefEqProofs [hla, hlb, hw0, hw1, hnn, hnn2, hrep, hw2, d55] <;> first | exact ⟨rfl, rfl⟩ | rfl) ?_
      refine WpO.nil ?_
      refine WpC.seq ?_
      rw [hsg]
      refine WpC.region ?_
      refine WpO.run tabOk 6 (by simp -implicitDefEqProofs [hla, hlb, hw0, hw1, hnn, hnn2, hrep, hw2, d55, hle] <;> first | exact ⟨rfl, rfl⟩ | rfl) ?_
      refine WpO.splitB 85 (by simp -implicitDefEqProofs [hla, hlb, hw0, hw1, hnn, hnn2, hrep, hw2, d55, hle] <;> rfl) (by rfl) (fun g85 => ?_) (fun g85 => ?_)
      · have g85' := g85; first | simp only [dT, dF] at g85' | try simp at g85'
        refine WpO.run tabOk 7 (by simp -implicitDefEqProofs [hla, hlb, hw0, hw1, hnn, hnn2, hrep, hw2, d55, hle, g85] <;> first | exact ⟨rfl, rfl⟩ | rfl) ?_
        refine WpO.nil ?_
        refine WpC.ret ?_
        try simp only [blockQ, seqQ]
        refine retD_i (by simp -implicitDefEqProofs [hla, hlb, hw0, hw1, hnn, hnn2, hrep, hw2, d55, hle, g85] <;> rfl) (by simp -implicitDefEqProofs [hla, hlb, hw0, hw1, hnn, hnn2, hrep, hw2, d55, hle, g85] <;> rfl) ?_
        simp [hrt, g85']
      · have g85' := g85; first | simp only [dT, dF] at g85' | try simp at g85'
        refine WpO.run tabOk 7 (by simp -implicitDefEqProofs [hla, hlb, hw0, hw1, hnn, hnn2, hrep, hw2, d55, hle, g85] <;> first | exact ⟨rfl, rfl⟩ | rfl) ?_
        refine WpO.nil ?_
        refine WpC.ret ?_
        try simp only [blockQ, seqQ]
        refine retD_i (by simp -implicitDefEqProofs [hla, hlb, hw0, hw1, hnn, hnn2, hrep, hw2, d55, hle, g85] <;> rfl) (by simp -implicitDefEqProofs [hla, hlb, hw0, hw1, hnn, hnn2, hrep, hw2, d55, hle, g85] <;> rfl) ?_
        simp [hrt, g85']
end Go.Proofs.Ytaobnhenjldjeaa.Pay
