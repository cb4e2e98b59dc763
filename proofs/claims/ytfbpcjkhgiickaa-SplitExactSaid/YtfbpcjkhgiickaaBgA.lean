/- Numbers of decimal digits, the lowest first: plain. No statement of the seed is proved here. -/
import Derived.Test.YtfbpcjkhgiickaaSpK
namespace Go.Proofs.Ytfbpcjkhgiickaa.Pay
open Go Go.RowKit
set_option linter.unusedVariables false
set_option linter.unusedSimpArgs false
set_option linter.unusedSectionVars false

/-- The digits of a number, the lowest first. -/
def dgs (n : Nat) : List Int := if h : n = 0 then [] else ((n % 10 : Nat) : Int) :: dgs (n / 10)
theorem dgs_zero : dgs 0 = [] := by unfold dgs; simp
theorem dgs_pos {n : Nat} (h : n ≠ 0) : dgs n = ((n % 10 : Nat) : Int) :: dgs (n / 10) := by rw [dgs]; simp [h]
def valL : List Int → Nat
  | [] => 0
  | d :: l => d.toNat + 10 * valL l
def okD (l : List Int) : Prop := ∀ d ∈ l, 0 ≤ d ∧ d ≤ 9
structure Dgs (l : List Int) : Prop where
  ok : okD l
  last : ∀ d, l.getLast? = some d → d ≠ 0
theorem Dgs.tail {d : Int} {l : List Int} (h : Dgs (d :: l)) : Dgs l := by
  refine ⟨fun x hx => h.ok x (by simp [hx]), fun x hx => h.last x ?_⟩
  cases l with
  | nil => simp at hx
  | cons y l => rw [List.getLast?_cons_cons]; exact hx
theorem Dgs.pos : ∀ {l : List Int}, Dgs l → l ≠ [] → 0 < valL l
  | [], _, h => absurd rfl h
  | d :: l, h, _ => by
    unfold valL
    by_cases hl : l = []
    · subst hl
      have h1 := h.last d (by simp)
      have h2 := h.ok d (by simp)
      omega
    · have := Dgs.pos h.tail hl
      omega
theorem Dgs.eq : ∀ {l : List Int}, Dgs l → l = dgs (valL l)
  | [], _ => by simp [valL, dgs_zero]
  | d :: l, h => by
    have hp := h.pos (by simp)
    have h2 := h.ok d (by simp)
    rw [dgs_pos (by omega)]
    unfold valL
    have e1 : (d.toNat + 10 * valL l) % 10 = d.toNat := by omega
    have e2 : (d.toNat + 10 * valL l) / 10 = valL l := by omega
    rw [e1, e2, ← h.tail.eq]
    congr 1
    omega
theorem dgs_is (n : Nat) : Dgs (dgs n) ∧ valL (dgs n) = n := by
  induction n using Nat.strongRecOn with
  | _ n ih =>
    by_cases h : n = 0
    · subst h; rw [dgs_zero]; exact ⟨⟨fun d hd => by simp at hd, fun d hd => by simp at hd⟩, rfl⟩
    · obtain ⟨h1, h2⟩ := ih (n / 10) (by omega)
      rw [dgs_pos h]
      refine ⟨⟨fun d hd => ?_, fun d hd => ?_⟩, ?_⟩
      · rcases List.mem_cons.1 hd with rfl | hd
        · omega
        · exact h1.ok d hd
      · by_cases h3 : n / 10 = 0
        · rw [h3, dgs_zero] at hd
          simp at hd
          omega
        · rw [dgs_pos h3, List.getLast?_cons_cons, ← dgs_pos h3] at hd
          exact h1.last d hd
      · unfold valL
        rw [h2]; omega
theorem dgs_nil {n : Nat} : (dgs n).length = 0 ↔ n = 0 := by
  constructor
  · intro h
    have := (dgs_is n).2
    rw [List.length_eq_zero_iff.1 h] at this
    exact this.symm
  · intro h; subst h; rw [dgs_zero]; rfl
theorem dgs_lt {n : Nat} : n < 10 ^ (dgs n).length := by
  induction n using Nat.strongRecOn with
  | _ n ih =>
    by_cases h : n = 0
    · subst h; rw [dgs_zero]; simp
    · rw [dgs_pos h, List.length_cons, Nat.pow_succ]
      have := ih (n / 10) (by omega)
      omega
theorem dgs_ge {n : Nat} (h : n ≠ 0) : 10 ^ ((dgs n).length - 1) ≤ n := by
  induction n using Nat.strongRecOn with
  | _ n ih =>
    rw [dgs_pos h, List.length_cons, Nat.add_sub_cancel]
    by_cases h3 : n / 10 = 0
    · rw [h3, dgs_zero]; simp; omega
    · have h1 := ih (n / 10) (by omega) h3
      have h2 : (dgs (n / 10)).length ≠ 0 := fun e => h3 (dgs_nil.1 e)
      obtain ⟨m, hm⟩ : ∃ m, (dgs (n / 10)).length = m + 1 := ⟨(dgs (n / 10)).length - 1, by omega⟩
      rw [hm] at h1 ⊢
      rw [Nat.add_sub_cancel] at h1
      rw [Nat.pow_succ]
      omega
theorem dgs_len_le {n m : Nat} (h : n < 10 ^ m) : (dgs n).length ≤ m := by
  by_cases h0 : n = 0
  · subst h0; rw [dgs_zero]; simp
  · have h1 := dgs_ge h0
    rcases Nat.lt_or_ge m (dgs n).length with h2 | h2
    · have : 10 ^ m ≤ 10 ^ ((dgs n).length - 1) := Nat.pow_le_pow_right (by decide) (by omega)
      omega
    · exact h2
theorem valL_len : ∀ {l : List Int}, okD l → valL l < 10 ^ l.length
  | [], _ => by simp [valL]
  | d :: l, h => by
    have h1 := valL_len (l := l) fun x hx => h x (by simp [hx])
    have h2 := h d (by simp)
    unfold valL
    rw [List.length_cons, Nat.pow_succ]
    omega
theorem valL_append : ∀ (l k : List Int), valL (l ++ k) = valL l + 10 ^ l.length * valL k
  | [], k => by simp [valL]
  | d :: l, k => by
    simp only [List.cons_append, valL, List.length_cons, Nat.pow_succ]
    rw [valL_append l k, Nat.mul_add, Nat.mul_comm (10 ^ l.length) 10, Nat.mul_assoc]
    omega
/-- Numbers in a row of one's own, as they weigh. -/
def valF (g : Nat → Int) : Nat → Int
  | 0 => 0
  | n + 1 => valF g n + g n * 10 ^ n
theorem valF_succ (g : Nat → Int) (n : Nat) : valF g (n + 1) = valF g n + g n * 10 ^ n := rfl
def listF (g : Nat → Int) (n : Nat) : List Int := (List.range n).map g
theorem rowF_listF (g : Nat → Int) (n : Nat) : rowF g n = (listF g n).map dI := by simp [rowF, listF]
theorem listF_succ (g : Nat → Int) (n : Nat) : listF g (n + 1) = listF g n ++ [g n] := by simp [listF, List.range_succ]
theorem listF_len (g : Nat → Int) (n : Nat) : (listF g n).length = n := by simp [listF]
theorem valF_congr {g h : Nat → Int} : ∀ {n : Nat}, (∀ i, i < n → g i = h i) → valF g n = valF h n
  | 0, _ => rfl
  | n + 1, e => by unfold valF; rw [valF_congr fun i hi => e i (by omega), e n (by omega)]
theorem valF_upd (g : Nat → Int) (x : Int) {j : Nat} : ∀ {n : Nat}, j < n → valF (upd g j x) n = valF g n + (x - g j) * 10 ^ j
  | 0, h => by omega
  | n + 1, h => by
    unfold valF
    by_cases e : j = n
    · subst e
      have e1 : valF (upd g j x) j = valF g j := valF_congr fun i hi => if_neg (by omega)
      rw [e1, show upd g j x j = x from if_pos rfl, Int.sub_mul]; omega
    · rw [valF_upd g x (by omega), show upd g j x n = g n from if_neg (by omega)]; omega
theorem valF_listF {g : Nat → Int} : ∀ {n : Nat}, (∀ i, i < n → 0 ≤ g i) → ((valL (listF g n) : Nat) : Int) = valF g n
  | 0, _ => rfl
  | n + 1, h => by
    rw [listF_succ, valL_append, listF_len]
    unfold valF
    rw [← valF_listF fun i hi => h i (by omega)]
    have := h n (by omega)
    simp only [valL, Nat.mul_zero, Nat.add_zero, Int.natCast_add, Int.natCast_mul, Int.natCast_pow]
    rw [show ((g n).toNat : Int) = g n by omega, Int.mul_comm]; rfl
theorem valF_pos {g : Nat → Int} : ∀ {n : Nat}, (∀ i, i < n → 0 ≤ g i) → 0 ≤ valF g n
  | 0, _ => Int.le_refl _
  | n + 1, h => by
    unfold valF
    have h1 := valF_pos (g := g) (n := n) fun i hi => h i (by omega)
    have h2 := Int.mul_nonneg (h n (by omega)) (show (0 : Int) ≤ 10 ^ n from Int.pow_nonneg (by decide))
    omega
/-- How many are left, without noughts at the end. -/
def trimN (g : Nat → Int) : Nat → Nat
  | 0 => 0
  | n + 1 => if g n = 0 then trimN g n else n + 1
theorem trimN_le (g : Nat → Int) : ∀ n, trimN g n ≤ n
  | 0 => Nat.le_refl _
  | n + 1 => by
    have := trimN_le g n
    unfold trimN; split <;> omega
theorem valF_trim (g : Nat → Int) : ∀ n, valF g (trimN g n) = valF g n
  | 0 => rfl
  | n + 1 => by
    unfold trimN
    split
    · rename_i h
      rw [valF_trim g n, show valF g (n + 1) = valF g n + g n * 10 ^ n from rfl, h]; simp
    · rfl
theorem trimN_last (g : Nat → Int) : ∀ n, 0 < trimN g n → g (trimN g n - 1) ≠ 0
  | 0, h => by simp [trimN] at h
  | n + 1, h => by
    unfold trimN at h ⊢
    split
    · rename_i h0; rw [if_pos h0] at h; exact trimN_last g n h
    · rename_i h0; simpa using h0
theorem trimN_stop {g : Nat → Int} {n : Nat} (h : n = 0 ∨ g (n - 1) ≠ 0) : trimN g n = n := by
  cases n with
  | zero => rfl
  | succ n => unfold trimN; rw [if_neg (by simpa using h)]
/-- What is left without noughts is the number's digits. -/
theorem trim_dgs {g : Nat → Int} {n x : Nat} (h : ∀ i, i < n → 0 ≤ g i ∧ g i ≤ 9) (hv : valF g n = x) : listF g (trimN g n) = dgs x := by
  have hle := trimN_le g n
  have hd : Dgs (listF g (trimN g n)) := by
    refine ⟨fun d hd => ?_, fun d hd => ?_⟩
    · obtain ⟨i, hi, rfl⟩ := List.mem_map.1 hd
      exact h i (by have := List.mem_range.1 hi; omega)
    · by_cases h0 : trimN g n = 0
      · rw [h0] at hd; simp [listF] at hd
      · obtain ⟨m, hm⟩ : ∃ m, trimN g n = m + 1 := ⟨trimN g n - 1, by omega⟩
        have h1 := trimN_last g n (by omega)
        rw [hm] at hd h1
        rw [listF_succ, List.getLast?_append] at hd
        simp at hd
        rw [← hd]; simpa using h1
  rw [hd.eq]
  congr 1
  have := valF_listF (g := g) (n := trimN g n) fun i hi => (h i (by omega)).1
  rw [valF_trim, hv] at this
  omega
def atL (l : List Int) (i : Nat) : Int := (l[i]?).getD 0
theorem atL_at {l : List Int} {i : Nat} (h : i < l.length) : atL l i = l[i] := by unfold atL; rw [List.getElem?_eq_getElem h]; rfl
theorem listF_atL (l : List Int) : listF (atL l) l.length = l := by
  apply List.ext_getElem
  · simp [listF]
  · intro i h1 h2
    simp only [listF, List.getElem_map, List.getElem_range]
    exact atL_at h2
theorem row_atL (l : List Int) : l.map dI = rowF (atL l) l.length := rowF_of l
theorem atL_dgs (n i : Nat) : 0 ≤ atL (dgs n) i ∧ atL (dgs n) i ≤ 9 := by
  unfold atL
  cases h : (dgs n)[i]? with
  | none => simp
  | some d => exact (dgs_is n).1.ok d (List.mem_of_getElem? h)
theorem valF_dgs (n : Nat) : valF (atL (dgs n)) (dgs n).length = n := by
  rw [← valF_listF fun i _ => (atL_dgs n i).1, listF_atL, (dgs_is n).2]
/-- All but the last are digits, and the number is too small for the last. -/
theorem last_zero {g : Nat → Int} {n : Nat} {x : Int} (h : ∀ i, i < n → 0 ≤ g i) (h0 : 0 ≤ g n) (hv : valF g (n + 1) = x) (hx : x < 10 ^ n) : g n = 0 := by
  have h1 := valF_pos h
  rw [show valF g (n + 1) = valF g n + g n * 10 ^ n from rfl] at hv
  rcases Int.lt_or_le 0 (g n) with h2 | h2
  · have h3 : 1 * (10 : Int) ^ n ≤ g n * 10 ^ n := Int.mul_le_mul_of_nonneg_right h2 (Int.pow_nonneg (by decide))
    omega
  · omega
theorem carry_val (g : Nat → Int) {i n : Nat} (h : i + 1 < n) (hg : 0 ≤ g i) : valF (upd (upd g (i + 1) (g (i + 1) + g i / 10)) i (g i % 10)) n = valF g n := by
  rw [valF_upd _ _ (by omega), valF_upd _ _ h, show upd g (i + 1) (g (i + 1) + g i / 10) i = g i from if_neg (by omega), Int.pow_succ]
  obtain ⟨M, hM⟩ : ∃ M : Int, (10 : Int) ^ i = M := ⟨_, rfl⟩
  rw [hM]
  have h1 : g i % 10 - g i = - (g i / 10 * 10) := by omega
  have h2 : g (i + 1) + g i / 10 - g (i + 1) = g i / 10 := by omega
  rw [h1, h2, Int.neg_mul, Int.mul_comm M 10, ← Int.mul_assoc]
  omega
/-- Lists of digits, compared. -/
def cmpL : List Int → List Int → Nat → Int
  | a, b, 0 => 0
  | a, b, n + 1 => if atL a n < atL b n then -1 else if atL b n < atL a n then 1 else cmpL a b n
def sgnI (x : Int) : Int := if x < 0 then -1 else if 0 < x then 1 else 0
theorem ten_pos (n : Nat) : (0 : Int) < 10 ^ n := Int.pow_pos (by decide)
theorem cmp_val {g h : Nat → Int} (hg : ∀ i, 0 ≤ g i ∧ g i ≤ 9) (hh : ∀ i, 0 ≤ h i ∧ h i ≤ 9) : ∀ n, valF g n < 10 ^ n ∧ valF h n < 10 ^ n
  | 0 => by simp [valF]
  | n + 1 => by
    have := cmp_val hg hh n
    have h1 := hg n
    have h2 := hh n
    unfold valF
    rw [Int.pow_succ]
    have hp := ten_pos n
    obtain ⟨M, hM⟩ : ∃ M : Int, (10 : Int) ^ n = M := ⟨_, rfl⟩
    rw [hM] at this hp ⊢
    have h3 : g n * M ≤ 9 * M := Int.mul_le_mul_of_nonneg_right h1.2 (by omega)
    have h4 : h n * M ≤ 9 * M := Int.mul_le_mul_of_nonneg_right h2.2 (by omega)
    omega
theorem cmpL_sgn (x y : Nat) : ∀ n, cmpL (dgs x) (dgs y) n = sgnI (valF (atL (dgs x)) n - valF (atL (dgs y)) n)
  | 0 => by simp [cmpL, sgnI, valF]
  | n + 1 => by
    unfold cmpL
    rw [cmpL_sgn x y n]
    have h1 := cmp_val (atL_dgs x) (atL_dgs y) n
    have p1 := valF_pos (g := atL (dgs x)) (n := n) fun i _ => (atL_dgs x i).1
    have p2 := valF_pos (g := atL (dgs y)) (n := n) fun i _ => (atL_dgs y i).1
    rw [valF_succ, valF_succ]
    obtain ⟨a, ha⟩ : ∃ a, atL (dgs x) n = a := ⟨_, rfl⟩
    obtain ⟨b, hb⟩ : ∃ b, atL (dgs y) n = b := ⟨_, rfl⟩
    obtain ⟨A, hA⟩ : ∃ A, valF (atL (dgs x)) n = A := ⟨_, rfl⟩
    obtain ⟨B, hB⟩ : ∃ B, valF (atL (dgs y)) n = B := ⟨_, rfl⟩
    obtain ⟨M, hM⟩ : ∃ M : Int, (10 : Int) ^ n = M := ⟨_, rfl⟩
    rw [ha, hb, hA, hB, hM]
    rw [hA, hB, hM] at h1
    rw [hA] at p1
    rw [hB] at p2
    rcases Int.lt_trichotomy a b with h | h | h
    · rw [if_pos h]
      have : (a + 1) * M ≤ b * M := Int.mul_le_mul_of_nonneg_right h (by omega)
      rw [Int.add_mul] at this
      unfold sgnI
      rw [if_pos (by omega)]
    · subst h
      rw [if_neg (by omega), if_neg (by omega), show A + a * M - (B + a * M) = A - B by omega]
    · rw [if_neg (by omega), if_pos h]
      have : (b + 1) * M ≤ a * M := Int.mul_le_mul_of_nonneg_right h (by omega)
      rw [Int.add_mul] at this
      unfold sgnI
      rw [if_neg (by omega), if_pos (by omega)]
theorem size_sgn (x y : Nat) : (if (dgs x).length = (dgs y).length then cmpL (dgs x) (dgs y) (dgs x).length else if (dgs x).length < (dgs y).length then -1 else 1) = sgnI ((x : Int) - y) := by
  split
  · rename_i h
    rw [cmpL_sgn, valF_dgs, h, valF_dgs]
  · rename_i h
    have h1 := @dgs_lt x
    have h2 := @dgs_lt y
    have key : ∀ a b : Nat, (dgs a).length < (dgs b).length → a < b := fun a b hl => by
      have hb : b ≠ 0 := fun e => by subst e; rw [dgs_zero] at hl; simp at hl
      have h3 := @dgs_lt a
      have h4 := dgs_ge hb
      have : 10 ^ (dgs a).length ≤ 10 ^ ((dgs b).length - 1) := Nat.pow_le_pow_right (by decide) (by omega)
      omega
    split
    · rename_i hl
      have := key x y hl
      unfold sgnI; rw [if_pos (by omega)]
    · have := key y x (by omega)
      unfold sgnI; rw [if_neg (by omega), if_pos (by omega)]
end Go.Proofs.Ytfbpcjkhgiickaa.Pay
