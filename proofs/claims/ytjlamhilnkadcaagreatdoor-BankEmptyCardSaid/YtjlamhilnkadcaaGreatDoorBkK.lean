/- The bank's plain law: what is written is read back. No statement of the seed is proved here. -/
import Derived.Test.YtjlamhilnkadcaaGreatDoorBkF
import Derived.Lib.IndexBytes
import Derived.Lib.SplitLaws
namespace Go.Proofs.YtjlamhilnkadcaaGreatDoor.Pay
open Go Go.RowKit
set_option linter.unusedVariables false
set_option linter.unusedSimpArgs false

theorem index_at (t r : List UInt8) (h : (10 : UInt8) ∉ t) : Lib.index (t ++ 10 :: r) [10] = t.length := by
  rw [Lib.index_one]
  induction t with
  | nil => simp [Lib.indexByte]
  | cons c t ih =>
    have h1 : ¬ (c == 10) = true := fun e => h (by rw [eq_of_beq e]; simp)
    have h2 := ih fun e => h (List.mem_cons_of_mem _ e)
    rw [List.cons_append, Lib.indexByte, if_neg h1, h2, if_neg (by simp)]
    simp
theorem splitK_step (t r : List UInt8) (h : (10 : UInt8) ∉ t) (k : Nat) : Lib.splitK [10] 0 (k + 1) (t ++ 10 :: r) = t :: Lib.splitK [10] 0 k r := by
  rw [Lib.splitK, index_at t r h, if_neg (by simp)]
  have e : ((t.length : Int)).toNat = t.length := by simp
  have e2 : (t ++ 10 :: r).drop (t.length + 1) = r := by rw [← List.drop_drop, List.drop_left]; rfl
  rw [e, Nat.add_zero, List.take_left]
  exact congrArg _ (congrArg _ e2)
theorem splL_eq (s : List UInt8) : splL s = Lib.splitK [10] 0 (s.count 10) s := by
  rw [splL, Lib.splitB_data, ← Lib.count_one]
  try rfl
theorem count_rows (rows : List (List UInt8)) (h : ∀ t ∈ rows, (10 : UInt8) ∉ t) : ((rows.map (· ++ [10])).flatten).count 10 = rows.length := by
  induction rows with
  | nil => rfl
  | cons t rows ih =>
    have h1 := List.count_eq_zero.2 (h t (by simp))
    have h2 := ih fun x hx => h x (List.mem_cons_of_mem _ hx)
    rw [List.map_cons, List.flatten_cons, List.count_append, h2, List.count_append, h1]
    simp; omega
theorem splitK_rows (rows : List (List UInt8)) (h : ∀ t ∈ rows, (10 : UInt8) ∉ t) : Lib.splitK [10] 0 rows.length (rows.map (· ++ [10])).flatten = rows ++ [[]] := by
  induction rows with
  | nil => rfl
  | cons t rows ih =>
    have h2 := ih fun x hx => h x (List.mem_cons_of_mem _ hx)
    rw [List.map_cons, List.flatten_cons, List.append_assoc, List.singleton_append, List.length_cons, splitK_step t _ (h t (by simp)), h2]
    rfl
theorem splL_rows (rows : List (List UInt8)) (h : ∀ t ∈ rows, (10 : UInt8) ∉ t) : splL (rows.map (· ++ [10])).flatten = rows ++ [[]] := by
  rw [splL_eq, count_rows rows h, splitK_rows rows h]

theorem parse_app (l m : List UInt8) : ∀ acc v, Lib.parseUint10 acc l = .ok v → Lib.parseUint10 acc (l ++ m) = Lib.parseUint10 v m := by
  induction l with
  | nil => intro acc v h; simp only [Lib.parseUint10] at h; cases h; rfl
  | cons c l ih =>
    intro acc v h
    rw [List.cons_append]
    simp only [Lib.parseUint10] at h ⊢
    split at h
    · rename_i h1
      rw [if_pos h1]
      split at h
      · cases h
      · rename_i h2
        rw [if_neg h2]
        split at h
        · cases h
        · rename_i h3
          rw [if_neg h3]
          exact ih _ v h
    · cases h
theorem dig_nat (d : Nat) (h : d < 10) : (UInt8.ofNat (48 + d)).toNat = 48 + d := by
  rw [UInt8.toNat_ofNat']; omega
theorem parse_dig (acc d : Nat) (h : d < 10) (ha : acc ≤ 922337203685477580) : Lib.parseUint10 acc [UInt8.ofNat (48 + d)] = .ok (acc * 10 + d) := by
  simp only [Lib.parseUint10, dig_nat d h]
  rw [if_pos (by omega), if_neg (by omega), if_neg (by omega)]
  congr 1; omega
theorem parse_dec (u : Nat) (h : u ≤ 9223372036854775807) : Lib.parseUint10 0 (Lib.decDigits u) = .ok u := by
  induction u using Nat.strongRecOn with
  | ind u ih =>
    rw [Lib.decDigits]
    split
    · rename_i hu
      rw [parse_dig 0 u hu (by omega)]; congr 1; omega
    · rename_i hu
      rw [parse_app _ _ 0 _ (ih (u / 10) (by omega) (by omega)), parse_dig _ _ (by omega) (by omega)]
      congr 1; omega
theorem parse_zeros (k : Nat) (l : List UInt8) : Lib.parseUint10 0 (List.replicate k 48 ++ l) = Lib.parseUint10 0 l := by
  refine parse_app _ l 0 0 ?_
  induction k with
  | zero => rfl
  | succ k ih =>
    rw [List.replicate_succ]
    simp only [Lib.parseUint10]
    rw [if_pos (by decide), if_neg (by omega), if_neg (by decide)]
    exact ih
/-- Digits, all of them. -/
theorem dec_dig (u : Nat) : ∀ b ∈ Lib.decDigits u, 48 ≤ b.toNat ∧ b.toNat ≤ 57 := by
  induction u using Nat.strongRecOn with
  | ind u ih =>
    intro b hb
    rw [Lib.decDigits] at hb
    split at hb
    · rename_i hu
      rw [List.mem_singleton] at hb
      rw [hb, dig_nat u hu]; omega
    · rename_i hu
      rw [List.mem_append, List.mem_singleton] at hb
      rcases hb with hb | hb
      · exact ih (u / 10) (by omega) b hb
      · rw [hb, dig_nat _ (by omega)]; omega
theorem wide_dig (n : Int) (hn : 0 ≤ n) (d : Nat) : ∀ b ∈ wideL n d, 48 ≤ b.toNat ∧ b.toNat ≤ 57 := by
  intro b hb
  rw [wideL, List.mem_append] at hb
  rcases hb with hb | hb
  · rw [(List.mem_replicate.1 hb).2]; decide
  · rw [Lib.itoa, if_neg (by omega)] at hb
    exact dec_dig _ b hb
theorem wide_no10 (n : Int) (hn : 0 ≤ n) (d : Nat) : (10 : UInt8) ∉ wideL n d := fun h => by
  have := (wide_dig n hn d 10 h).1
  exact absurd this (by decide)
theorem atoiP_wide (n : Int) (h0 : 0 ≤ n) (h1 : n ≤ 9223372036854775807) (d : Nat) : atoiP (wideL n d) = (n, true) := by
  have hp : Lib.parseUint10 0 (wideL n d) = .ok n.toNat := by
    rw [wideL, parse_zeros, Lib.itoa, if_neg (by omega)]
    exact parse_dec _ (by omega)
  have hd := wide_dig n h0 d
  have hne : wideL n d ≠ [] := fun e => by
    have h2 := decDigits_pos n.toNat
    have h3 : (wideL n d).length = 0 := by rw [e]; rfl
    rw [wideL, List.length_append, Lib.itoa, if_neg (by omega)] at h3
    omega
  have ha : Lib.atoiAll (wideL n d) = .ok n := by
    cases hw : wideL n d with
    | nil => exact absurd hw hne
    | cons c r =>
      have hc := hd c (by rw [hw]; simp)
      simp only [Lib.atoiAll]
      rw [if_neg (by omega), ← hw, Lib.parseMag, if_neg hne, hp]
      simp only
      rw [if_neg (by omega), if_neg (by omega), if_neg (by omega)]
      congr 1; omega
  simp [atoiP, ha]

def rowL (p : Pm) : List UInt8 := UInt8.ofNat p.kind.toNat :: (wideL p.num 10 ++ wideL p.amt 16)
def rowsL (per : Int) (l : List Pm) : List (List UInt8) := (72 :: wideL per 5) :: (l.map rowL ++ [84 :: (wideL l.length 4 ++ wideL (sumA l) 20)])
theorem textL_rows (per : Int) (l : List Pm) : textL per l = ((rowsL per l).map (· ++ [10])).flatten := by
  simp only [textL, bodyL, headL, rowsL, List.map_cons, List.map_append, List.map_nil, List.flatten_cons, List.flatten_append, List.map_map, List.flatten_nil, List.cons_append, List.append_assoc, List.append_nil, List.nil_append]
  congr 5
  apply List.map_congr_left
  intro p _
  simp [lineL, rowL]
theorem getP_row {p : Pm} (h : okB p = true) : getP (rowL p) = p := by
  simp only [okB, Bool.and_eq_true, Bool.or_eq_true, decide_eq_true_eq] at h
  have h10 := wideL_len (n := p.num) (d := 10) (k := 9) rfl (by omega) (by omega)
  have e1 : (rowL p).tail.take 10 = wideL p.num 10 := by
    have := List.take_left (l₁ := wideL p.num 10) (l₂ := wideL p.amt 16)
    rw [h10] at this
    exact this
  have e2 : (rowL p).drop 11 = wideL p.amt 16 := by
    have := List.drop_left (l₁ := wideL p.num 10) (l₂ := wideL p.amt 16)
    rw [h10] at this
    exact this
  have e3 : (((rowL p).getD 0 0).toNat : Int) = p.kind := by
    have : (rowL p).getD 0 0 = UInt8.ofNat p.kind.toNat := rfl
    rw [this, UInt8.toNat_ofNat']
    omega
  unfold getP
  rw [e1, e2, e3, atoiP_wide _ (by omega) (by omega), atoiP_wide _ (by omega) (by omega)]
theorem read_text {per : Int} {l : List Pm} (hr : rightFB per l = true) : readR (textL per l) = some (per, l) := by
  have hr0 := hr
  simp only [rightFB, Bool.and_eq_true, decide_eq_true_eq] at hr
  obtain ⟨⟨⟨hal, hp0⟩, hp1⟩, hl⟩ := hr
  have hok : ∀ p ∈ l, okB p = true := fun p hp => by
    obtain ⟨i, hi, rfl⟩ := List.getElem_of_mem hp
    exact right_at hal hi
  have hsu := sumA_le hal l.length (Nat.le_refl _)
  rw [List.take_length] at hsu
  have hw5 := wideL_len (n := per) (d := 5) (k := 4) rfl (by omega) (by omega)
  have hno : ∀ t ∈ rowsL per l, (10 : UInt8) ∉ t := by
    intro t ht h10
    simp only [rowsL, List.mem_cons, List.mem_append, List.mem_map, List.not_mem_nil, or_false] at ht
    rcases ht with rfl | ⟨p, hp, rfl⟩ | rfl
    · rcases List.mem_cons.1 h10 with h | h
      · exact absurd h (by decide)
      · exact wide_no10 per (by omega) 5 h
    · have hk := hok p hp
      simp only [okB, Bool.and_eq_true, Bool.or_eq_true, decide_eq_true_eq] at hk
      rw [rowL, List.mem_cons, List.mem_append] at h10
      rcases h10 with h | h | h
      · rcases hk.1.1.1.1 with e | e <;> rw [e] at h <;> exact absurd h (by decide)
      · exact wide_no10 p.num (by omega) 10 h
      · exact wide_no10 p.amt (by omega) 16 h
    · rw [List.mem_cons, List.mem_append] at h10
      rcases h10 with h | h | h
      · exact absurd h (by decide)
      · exact wide_no10 l.length (by omega) 4 h
      · exact wide_no10 (sumA l) (by omega) 20 h
  have hX := splL_rows (rowsL per l) hno
  rw [← textL_rows] at hX
  have hlen : (rowsL per l ++ [[]]).length = l.length + 3 := by simp [rowsL]
  have hmid : midL (rowsL per l ++ [[]]) = l.map rowL := by
    rw [midL, hlen, rowsL, show l.length + 3 - 2 - 1 = (l.map rowL).length by simp, List.cons_append, List.drop_succ_cons, List.drop_zero, List.append_assoc, List.take_left]
  have hraw : rawR (rowsL per l ++ [[]]) = some (per, l) := by
    have h0 : (rowsL per l ++ [[]]).getD 0 [] = 72 :: wideL per 5 := rfl
    rw [rawR, hlen, h0, hmid, if_neg (by simp [hw5]), if_pos]
    · rw [List.tail_cons, atoiP_wide per (by omega) (by omega), List.map_map]
      congr 2
      exact (List.map_congr_left fun p hp => getP_row (hok p hp)).trans (List.map_id l)
    · rw [List.all_eq_true]
      intro t ht
      obtain ⟨p, hp, rfl⟩ := List.mem_map.1 ht
      have h1 := lineL_len (hok p hp)
      simp only [lineL, List.length_cons, List.length_append] at h1
      simp only [rowL, List.length_cons, List.length_append, decide_eq_true_eq]
      simp at h1
      omega
  rw [readR, hX, hraw]
  simp [hr0]
end Go.Proofs.YtjlamhilnkadcaaGreatDoor.Pay
