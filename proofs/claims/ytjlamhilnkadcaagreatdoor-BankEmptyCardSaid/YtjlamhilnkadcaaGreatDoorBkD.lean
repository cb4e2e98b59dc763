/- bank.Write: what it writes. No statement of the seed is proved here. -/
import Derived.Test.YtjlamhilnkadcaaGreatDoorBkC
namespace Go.Proofs.YtjlamhilnkadcaaGreatDoor.Pay
open Go Go.RowKit
set_option linter.unusedVariables false
set_option linter.unusedSimpArgs false

theorem wideL_len {n : Int} {d k : Nat} (hd : d = k + 1) (h0 : 0 ≤ n) (h1 : n < 10 ^ d) : (wideL n d).length = d := by
  have : (Lib.itoa n).length ≤ d := by
    subst hd
    unfold Lib.itoa
    rw [if_neg (by omega)]
    exact decDigits_len _ _ (by
      have : ((n.toNat : Nat) : Int) < ((10 ^ (k + 1) : Nat) : Int) := by rw [Int.toNat_of_nonneg h0]; simpa using h1
      exact_mod_cast this)
  rw [wideL, List.length_append, List.length_replicate]; omega
theorem wideL_short {n : Int} {d : Nat} (h0 : -9223372036854775808 ≤ n) (h1 : n ≤ 9223372036854775807) (hd : d ≤ 20) : (wideL n d).length ≤ 20 := by
  have := itoa_len h0 h1
  rw [wideL, List.length_append, List.length_replicate]; omega

def headL (per : Int) : List UInt8 := 72 :: (wideL per 5 ++ [10])
def lineL (p : Pm) : List UInt8 := UInt8.ofNat p.kind.toNat :: (wideL p.num 10 ++ (wideL p.amt 16 ++ [10]))
def bodyL (per : Int) (l : List Pm) : List UInt8 := headL per ++ (l.map lineL).flatten
def sumA (l : List Pm) : Int := (l.map Pm.amt).sum
def textL (per : Int) (l : List Pm) : List UInt8 := bodyL per l ++ 84 :: (wideL l.length 4 ++ (wideL (sumA l) 20 ++ [10]))
theorem lineL_len {p : Pm} (h : okB p = true) : (lineL p).length = 28 := by
  simp only [okB, Bool.and_eq_true, Bool.or_eq_true, decide_eq_true_eq] at h
  have h1 := wideL_len (n := p.num) (d := 10) (k := 9) rfl (by omega) (by omega)
  have h2 := wideL_len (n := p.amt) (d := 16) (k := 15) rfl (by omega) (by omega)
  simp [lineL, h1, h2]
theorem allB_at {l : List Pm} {n k : Nat} (h : allB l n = true) (hk : k < n) : atB l k = true := List.all_eq_true.1 h k (List.mem_range.2 hk)
theorem right_at {l : List Pm} {k : Nat} (h : allB l l.length = true) (hk : k < l.length) : okB l[k] = true := by
  have := allB_at h hk
  rw [atB, Bool.and_eq_true] at this
  have h1 := this.1
  rwa [List.getD_eq_getElem?_getD, List.getElem?_eq_getElem hk] at h1
theorem bodyL_step {per : Int} {l : List Pm} {k : Nat} (hk : k < l.length) : bodyL per (l.take (k + 1)) = bodyL per (l.take k) ++ lineL l[k] := by
  have e : l.take (k + 1) = l.take k ++ [l[k]] := by rw [List.take_add_one, List.getElem?_eq_getElem hk]; rfl
  rw [e, bodyL, bodyL, List.map_append, List.flatten_append]; simp
theorem sumA_step {l : List Pm} {k : Nat} (hk : k < l.length) : sumA (l.take (k + 1)) = sumA (l.take k) + l[k].amt := by
  have e : l.take (k + 1) = l.take k ++ [l[k]] := by rw [List.take_add_one, List.getElem?_eq_getElem hk]; rfl
  rw [e, sumA, sumA, List.map_append, List.sum_append]; simp
theorem bodyL_len {per : Int} {l : List Pm} (h : allB l l.length = true) (hp : (wideL per 5).length = 5) : ∀ k, k ≤ l.length → (bodyL per (l.take k)).length = 7 + 28 * k
  | 0, _ => by simp [bodyL, headL, hp]
  | k + 1, hk => by
    rw [bodyL_step hk, List.length_append, bodyL_len h hp k (by omega), lineL_len (right_at h hk)]; omega
theorem sumA_le {l : List Pm} (h : allB l l.length = true) : ∀ k, k ≤ l.length → 0 ≤ sumA (l.take k) ∧ sumA (l.take k) ≤ k * 1125899906842624
  | 0, _ => by simp [sumA]
  | k + 1, hk => by
    have h1 := sumA_le h k (by omega)
    have h2 := right_at h hk
    simp only [okB, Bool.and_eq_true, Bool.or_eq_true, decide_eq_true_eq] at h2
    rw [sumA_step hk]; omega
theorem write_no (per : Int) (l : List Pm) (hl : l.length ≤ 9223372036854775807) (hr : rightFB per l = false) (hc : Gives Tryz.prog 12 [.d (encF per l)] (.d (.bool (rightFB per l)))) :
    Gives Tryz.prog 5 [.d (encF per l)] (.tup [.d (.str []), .d (dI 1)]) := by
  rw [hr] at hc
  refine Gives.enter tabOk Tryz.func5 rfl (by show 1 ≤ 54; decide) ?_
  simp only [Tryz.f5]
  have H := trivial
  refine zR ?_
  refine WpC.seq ?_
  refine WpC.seq ?_
  refine WpC.region ?_
  refine zO 1 ?_
  refine zG call_12 (hc) ?_
  refine zO 1 ?_
  refine WpO.nil ?_
  refine zT ?_
  refine zR ?_
  refine WpC.ret ?_
  try simp only [blockQ, seqQ]
  refine zE ?_
  simp -implicitDefEqProofs [H]
end Go.Proofs.YtjlamhilnkadcaaGreatDoor.Pay
