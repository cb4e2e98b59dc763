/- The texts BgD, SpL, SpM, SpN, SpX, SpR, one behind the other. No statement of the seed is proved here. -/
import Derived.Test.YtaobnhenjldjeaaMgH
/- Numbers of decimal digits: MulDiv walked. No statement of the seed is proved here. -/
namespace Go.Proofs.Ytaobnhenjldjeaa.Pay
open Go Go.RowKit
set_option linter.unusedVariables false
set_option linter.unusedSimpArgs false
set_option linter.unusedSectionVars false

theorem Gh.nilD {s : St} {t : Nat} (k : Nat) (hx : get s.env t = some (.d .nil)) : Gh s { s with env := (t, .d (.list k [])) :: s.env } := Gh.slot hx fun w I L a v hs h => by
  simp only [VRel] at h ⊢
  exact nil_list h
theorem trimL_ok (l : List Int) (hn : l.length ≤ 1000000) : WpF Try.prog 54 [.sl 0 l.length] [.arr 3 1 (l.map dI)] fun r S => r = .sl 0 (trimN (atL l) l.length) ∧ S = [.arr 3 1 (l.map dI)] := by
  have := trim_ok (atL l) l.length hn
  rwa [← row_atL] at this
theorem double_ok (x : Nat) (hx : (dgs x).length ≤ 1000) : Gives Try.prog 57 [.d (.list 1 ((dgs x).map dI))] (.d (.list 1 ((dgs (2 * x)).map dI))) := by
  have h1 := of_ok 2 (by unfold in64; omega)
  have e1 : encB (decide ((2 : Int) < 0)) (2 : Int).natAbs = encB false 2 := rfl
  rw [e1] at h1
  have h2 := mulB_okB false false x 2 hx (Nat.le_trans (dgs_19 (by decide)) (by decide))
  have e2 : signB false false (x * 2) = false := by simp [signB]
  rw [e2, Nat.mul_comm] at h2
  unfold encB at h1 h2
  refine Gives.enter tabOk Try.func57 rfl (by show 1 ≤ 8; decide) ?_
  simp only [Try.f57]
  refine WpC.seq (WpC.ops tabOk (r := []) (by simp -implicitDefEqProofs <;> rfl) rfl ?_)
  refine WpC.seq ?_
  refine WpC.region ?_
  refine WpO.run tabOk 2 (by simp -implicitDefEqProofs <;> first | exact ⟨rfl, rfl⟩ | rfl) ?_
  refine WpO.data (by simp) rfl (by simp -implicitDefEqProofs <;> rfl) (by simp -implicitDefEqProofs <;> rfl) (by simp -implicitDefEqProofs <;> rfl) call_53 (by simp) (h1) (by rfl) (by simp -implicitDefEqProofs <;> rfl) ?_
  refine WpO.data (by simp) rfl (by simp -implicitDefEqProofs <;> rfl) (by simp -implicitDefEqProofs <;> rfl) (by simp -implicitDefEqProofs <;> rfl) call_52 (by simp) (h2) (by rfl) (by simp -implicitDefEqProofs <;> rfl) ?_
  refine WpO.run tabOk 2 (by simp -implicitDefEqProofs <;> first | exact ⟨rfl, rfl⟩ | rfl) ?_
  refine WpO.nil ?_
  refine WpC.ret ?_
  try simp only [blockQ, seqQ]
  refine retD_i (by simp -implicitDefEqProofs <;> rfl) (by simp -implicitDefEqProofs <;> rfl) ?_
  simp -implicitDefEqProofs
theorem dgs_at (n : Nat) : ∀ j, atL (dgs n) j = ((n / 10 ^ j % 10 : Nat) : Int) := by
  induction n using Nat.strongRecOn with
  | _ n ih =>
    intro j
    by_cases h : n = 0
    · subst h; rw [dgs_zero]; simp [atL]
    · rw [dgs_pos h]
      cases j with
      | zero => simp [atL]
      | succ j =>
        have : atL (((n % 10 : Nat) : Int) :: dgs (n / 10)) (j + 1) = atL (dgs (n / 10)) j := by simp [atL]
        rw [this, ih (n / 10) (by omega), Nat.div_div_eq_div_mul, Nat.pow_succ, Nat.mul_comm]
/-- The first k digits. -/
def preN (A k : Nat) : Nat := A / 10 ^ ((dgs A).length - k)
theorem preN_zero (A : Nat) : preN A 0 = 0 := Nat.div_eq_of_lt dgs_lt
theorem preN_all (A : Nat) : preN A (dgs A).length = A := by unfold preN; rw [Nat.sub_self]; simp
theorem preN_step {A k : Nat} (h : k < (dgs A).length) : (preN A (k + 1) : Int) = 10 * preN A k + atL (dgs A) ((dgs A).length - 1 - k) := by
  rw [dgs_at]
  unfold preN
  obtain ⟨j, hj⟩ : ∃ j, (dgs A).length - 1 - k = j := ⟨_, rfl⟩
  rw [show (dgs A).length - (k + 1) = j by omega, show (dgs A).length - k = j + 1 by omega, hj, Nat.pow_succ, ← Nat.div_div_eq_div_mul]
  omega
theorem preN_mono (A : Nat) {k j : Nat} (h : k ≤ j) : preN A k ≤ preN A j := Nat.div_le_div_left (Nat.pow_le_pow_right (by decide) (by omega)) (Nat.pow_pos (by decide))
/-- Digit k of the quotient. -/
def quoD (A C : Nat) (k : Nat) : Int := ((preN A (k + 1) / C : Nat) : Int) - 10 * ((preN A k / C : Nat) : Int)
def moreB (mode : Int) (q r C : Nat) : Bool := decide ((mode = 1 ∧ 0 < r) ∨ (1 < mode ∧ C < 2 * r) ∨ (2 * r = C ∧ (mode = 2 ∨ (mode = 3 ∧ q % 2 = 1))))
/-- a times b, by c. -/
def mdN (a b : Int) : Nat := a.natAbs * b.natAbs
def mdQ (a b c mode : Int) : Nat := mdN a b / c.natAbs + if moreB mode (mdN a b / c.natAbs) (mdN a b % c.natAbs) c.natAbs = true then 1 else 0
def mdOk (a b c mode : Int) : Bool := decide (mdQ a b c mode ≤ 9223372036854775807)
def mdMinus (a b c : Int) : Bool := signB (decide (a < 0)) (decide (b < 0)) (mdN a b) != decide (c < 0)
def mdR (a b c mode : Int) : Int := if mdOk a b c mode = true then (if mdMinus a b c = true then -(mdQ a b c mode : Int) else mdQ a b c mode) else 0
theorem div_step {P P' d C : Nat} (hC : 0 < C) (h : P' = 10 * P + d) : P' / C = 10 * (P / C) + (10 * (P % C) + d) / C ∧ P' % C = (10 * (P % C) + d) % C := by
  have e : P' = (10 * (P % C) + d) + C * (10 * (P / C)) := by
    have := Nat.div_add_mod P C
    rw [h, Nat.mul_left_comm]
    omega
  rw [e]
  exact ⟨by rw [Nat.add_mul_div_left _ _ hC]; omega, by rw [Nat.add_mul_mod_self_left]⟩
theorem sgn_geq (x y : Nat) : (0 ≤ sgnI ((x : Int) - y)) = (y ≤ x) := propext (by
  unfold sgnI
  by_cases h1 : (x : Int) - y < 0
  · rw [if_pos h1]; omega
  · rw [if_neg h1]
    by_cases h2 : 0 < (x : Int) - y
    · rw [if_pos h2]; omega
    · rw [if_neg h2]; omega)
theorem sgn_gt (x y : Nat) : (0 < sgnI ((x : Int) - y)) = (y < x) := propext (by
  unfold sgnI
  by_cases h1 : (x : Int) - y < 0
  · rw [if_pos h1]; omega
  · rw [if_neg h1]
    by_cases h2 : 0 < (x : Int) - y
    · rw [if_pos h2]; omega
    · rw [if_neg h2]; omega)
theorem sgn_eq (x y : Nat) : (sgnI ((x : Int) - y) = 0) = (x = y) := propext (by
  unfold sgnI
  by_cases h1 : (x : Int) - y < 0
  · rw [if_pos h1]; omega
  · rw [if_neg h1]
    by_cases h2 : 0 < (x : Int) - y
    · rw [if_pos h2]; omega
    · rw [if_neg h2]; omega)
def qN (A C k : Nat) : Nat := preN A k / C
theorem len39 {A : Nat} (h : A < 10 ^ 39) : (dgs A).length ≤ 39 := dgs_len_le h
theorem mdN_lt {a b : Int} (ha : in64 a) (hb : in64 b) : mdN a b ≤ 9223372036854775808 * 9223372036854775808 := by
  unfold in64 at ha hb
  exact Nat.mul_le_mul (by omega) (by omega)
set_option maxHeartbeats 40000000 in
theorem mulDivB_ok (a b c mode : Int) (ha : in64 a) (hb : in64 b) (hc : in64 c) (hc0 : c ≠ 0) (hm : in64 mode) : Gives Try.prog 37 [.d (dI a), .d (dI b), .d (dI c), .d (dI mode)] (.tup [.d (dI (mdR a b c mode)), .d (.bool (mdOk a b c mode))]) := by
  have o1 := of_ok a ha
  have o2 := of_ok b hb
  have o3 := of_ok c hc
  have hAl := mdN_lt ha hb
  have hmu := mulB_okB (decide (a < 0)) (decide (b < 0)) a.natAbs b.natAbs (Nat.le_trans (dgs_19 (by unfold in64 at ha; omega)) (by decide)) (Nat.le_trans (dgs_19 (by unfold in64 at hb; omega)) (by decide))
  have hC0 : 0 < c.natAbs := by omega
  have hCb : c.natAbs ≤ 9223372036854775808 := by unfold in64 at hc; omega
  unfold mdR mdOk mdMinus mdQ
  obtain ⟨A, hA⟩ : ∃ A, mdN a b = A := ⟨_, rfl⟩
  have hA' : a.natAbs * b.natAbs = A := hA
  rw [hA] at hAl ⊢
  rw [hA'] at hmu
  obtain ⟨C, hC⟩ : ∃ C, c.natAbs = C := ⟨_, rfl⟩
  rw [hC] at o3 hC0 hCb ⊢
  obtain ⟨pm, hpm⟩ : ∃ z, signB (decide (a < 0)) (decide (b < 0)) A = z := ⟨_, rfl⟩
  rw [hpm] at hmu ⊢
  obtain ⟨cm, hcm⟩ : ∃ b, decide (c < 0) = b := ⟨_, rfl⟩
  rw [hcm] at o3 ⊢
  obtain ⟨q, hq⟩ : ∃ q, A / C = q := ⟨_, rfl⟩
  obtain ⟨r, hr⟩ : ∃ q, A % C = q := ⟨_, rfl⟩
  have hrC : r < C := hr ▸ Nat.mod_lt _ hC0
  rw [hq, hr]
  obtain ⟨mo, hmo⟩ : ∃ b, moreB mode q r C = b := ⟨_, rfl⟩
  rw [hmo]
  have hL : (dgs A).length ≤ 39 := dgs_len_le (Nat.lt_of_le_of_lt hAl (by decide))
  have hCl : (dgs C).length ≤ 19 := dgs_19 hCb
  have p0 := preN_zero A
  have pL := preN_all A
  have pst := fun k h => preN_step (A := A) (k := k) h
  have ddig := atL_dgs A
  have pmo := fun k j h => preN_mono A (k := k) (j := j) h
  have hd0 := double_ok r
  have hsz := size_dgs (2 * r) C
  have hz0 : rowF (quoD A C) 0 = [] := rfl
  have hA0 : (dgs A).length = 0 → q = 0 := fun h => by rw [dgs_nil.1 h] at hq; simp at hq; exact hq.symm
  have hrl : (dgs (2 * r)).length ≤ 1000 ∧ (dgs r).length ≤ 1000 := by
    have h1 : (dgs (2 * r)).length ≤ 20 := dgs_len_le (by omega)
    have h2 : (dgs r).length ≤ 20 := dgs_len_le (by omega)
    omega
  have hd1 := hd0 hrl.2
  have hs1 := sizeB_ok (dgs (2 * r)) (dgs C) (by omega) (by omega)
  rw [hsz] at hs1
  have dgr0 : (0 < (dgs r).length) = (0 < r) := propext (by have := dgs_nil (n := r); omega)
  unfold encB at o1 o2 o3 hmu
  obtain ⟨L, hLn⟩ : ∃ L, (dgs A).length = L := ⟨_, rfl⟩
  rw [hLn] at hL pL pst hA0
  have hw0 : IntKind.i64.wrap ((L : Int) - 1) = (L : Int) - 1 := wrapI (by omega) (by omega)
  refine Gives.enter tabOk Try.func37 rfl (by show 4 ≤ 146; decide) ?_
  simp only [Try.f37]
  refine WpC.seq (WpC.ops tabOk (r := []) (by simp -implicitDefEqProofs [hLn, hw0, p0, dgs_zero, hz0] <;> rfl) rfl ?_)
  refine WpC.seq ?_
  refine WpC.region ?_
  refine WpO.run tabOk 1 (by simp -implicitDefEqProofs [hLn, hw0, p0, dgs_zero, hz0] <;> first | exact ⟨rfl, rfl⟩ | rfl) ?_
  refine WpO.data (by simp) rfl (by simp -implicitDefEqProofs [hLn, hw0, p0, dgs_zero, hz0] <;> rfl) (by simp -implicitDefEqProofs [hLn, hw0, p0, dgs_zero, hz0] <;> rfl) (by simp -implicitDefEqProofs [hLn, hw0, p0, dgs_zero, hz0] <;> rfl) call_53 (by simp) (o1) (by rfl) (by simp -implicitDefEqProofs [hLn, hw0, p0, dgs_zero, hz0] <;> rfl) ?_
  refine WpO.run tabOk 1 (by simp -implicitDefEqProofs [hLn, hw0, p0, dgs_zero, hz0] <;> first | exact ⟨rfl, rfl⟩ | rfl) ?_
  refine WpO.data (by simp) rfl (by simp -implicitDefEqProofs [hLn, hw0, p0, dgs_zero, hz0] <;> rfl) (by simp -implicitDefEqProofs [hLn, hw0, p0, dgs_zero, hz0] <;> rfl) (by simp -implicitDefEqProofs [hLn, hw0, p0, dgs_zero, hz0] <;> rfl) call_53 (by simp) (o2) (by rfl) (by simp -implicitDefEqProofs [hLn, hw0, p0, dgs_zero, hz0] <;> rfl) ?_
  refine WpO.data (by simp) rfl (by simp -implicitDefEqProofs [hLn, hw0, p0, dgs_zero, hz0] <;> rfl) (by simp -implicitDefEqProofs [hLn, hw0, p0, dgs_zero, hz0] <;> rfl) (by simp -implicitDefEqProofs [hLn, hw0, p0, dgs_zero, hz0] <;> rfl) call_52 (by simp) (hmu) (by rfl) (by simp -implicitDefEqProofs [hLn, hw0, p0, dgs_zero, hz0] <;> rfl) ?_
  refine WpO.run tabOk 1 (by simp -implicitDefEqProofs [hLn, hw0, p0, dgs_zero, hz0] <;> first | exact ⟨rfl, rfl⟩ | rfl) ?_
  refine WpO.data (by simp) rfl (by simp -implicitDefEqProofs [hLn, hw0, p0, dgs_zero, hz0] <;> rfl) (by simp -implicitDefEqProofs [hLn, hw0, p0, dgs_zero, hz0] <;> rfl) (by simp -implicitDefEqProofs [hLn, hw0, p0, dgs_zero, hz0] <;> rfl) call_53 (by simp) (o3) (by rfl) (by simp -implicitDefEqProofs [hLn, hw0, p0, dgs_zero, hz0] <;> rfl) ?_
  refine WpO.run tabOk 4 (by simp -implicitDefEqProofs [hLn, hw0, p0, dgs_zero, hz0] <;> first | exact ⟨rfl, rfl⟩ | rfl) ?_
  refine WpO.nil ?_
  refine WpC.seq (WpC.ops tabOk (r := []) (by simp -implicitDefEqProofs [hLn, hw0, p0, dgs_zero, hz0] <;> rfl) rfl ?_)
  refine WpC.seq ?_
  refine WpC.gh (Gh.nilD 1 (t := 12) (by simp)) ?_
  refine WpC.gh (Gh.nilArr 3 1 (t := 13) (by simp) (by simp)) ?_
  refine WpC.seq (WpC.ops tabOk (r := []) (by simp -implicitDefEqProofs [hLn, hw0, p0, dgs_zero, hz0] <;> rfl) rfl ?_)
  refine WpC.block ?_
  refine WpC.loopM [3, 10, 11] [12, 13, 14] (fun k => L - k) (0 : Nat) (fun k => [(12, .d (.list 1 ((dgs (preN A k % C)).map dI))), (13, .sl 2 k), (14, .d (dI ((L : Int) - 1 - k)))]) (fun k => [.cells 77 [.d (.bool pm), .d (.list 1 ((dgs A).map dI))], .cells 77 [.d (.bool cm), .d (.list 1 ((dgs C).map dI))], .arr 3 1 (rowF (quoD A C) k)]) (fun k => k ≤ L) (by simp -implicitDefEqProofs [hLn, hw0, p0, dgs_zero, hz0] <;> rfl) (Gh.cut' [12, 13, 14, 3, 10, 11] 3 (by simp -implicitDefEqProofs [hLn, hw0, p0, dgs_zero, hz0]) (by simp -implicitDefEqProofs [hLn, hw0, p0, dgs_zero, hz0]) rfl (by simp) (by simp) (by simp)) (Nat.zero_le _) ?_
  rintro k hi
  simp only [List.cons_append, List.nil_append]
  have hkL : k ≤ L := hi
  refine WpC.seq ?_
  refine WpC.seq (WpC.ops tabOk (r := []) (by simp -implicitDefEqProofs [hLn, hw0, p0, dgs_zero, hz0] <;> rfl) rfl ?_)
  refine WpC.condD ((0 : Int) ≤ (L : Int) - 1 - k) (by simp -implicitDefEqProofs [hLn, hw0, p0, dgs_zero, hz0]) (fun d34 => ?_) (fun d34 => ?_)
  · have hkl : k < L := by omega
    have hst := pst k hkl
    obtain ⟨j, hj⟩ : ∃ j, L - 1 - k = j := ⟨_, rfl⟩
    have hjA : j < (dgs A).length := by omega
    have hjL : j < L := by omega
    obtain ⟨d, hd⟩ : ∃ d, (dgs A)[j] = d := ⟨_, rfl⟩
    have hdA : atL (dgs A) j = d := by rw [← hd, atL_at hjA]
    have hdb := ddig j
    rw [hj] at hst
    rw [hdA] at hst hdb
    have hji : (L : Int) - 1 - k = j := by omega
    have hjw : IntKind.i64.wrap ((j : Int) - 1) = (L : Int) - 1 - ((k + 1 : Nat) : Int) := by rw [wrapI (by omega) (by omega)]; omega
    rw [hji]
    obtain ⟨P, hP⟩ : ∃ P, preN A k = P := ⟨_, rfl⟩
    obtain ⟨P2, hP2⟩ : ∃ P, preN A (k + 1) = P := ⟨_, rfl⟩
    rw [hP, hP2] at hst
    rw [hP]
    obtain ⟨dn, hdn⟩ : ∃ n : Nat, d = n := ⟨d.toNat, by omega⟩
    have hds := div_step (C := C) hC0 (show P2 = 10 * P + dn by omega)
    have hqd : quoD A C k = ((P2 / C : Nat) : Int) - 10 * ((P / C : Nat) : Int) := by unfold quoD; rw [hP, hP2]
    have hmC := Nat.mod_lt P hC0
    obtain ⟨R, hR⟩ : ∃ R, P % C = R := ⟨_, rfl⟩
    rw [hR] at hds hmC
    obtain ⟨L2, hL2⟩ : ∃ L2, 10 * R + dn = L2 := ⟨_, rfl⟩
    rw [hL2] at hds
    have hRl : (dgs R).length ≤ 20 := dgs_len_le (by omega)
    have hto := trimL_ok (d :: dgs R) (by simp; omega)
    have hvl : valF (atL (d :: dgs R)) (d :: dgs R).length = L2 := by
      rw [← valF_listF (fun i hi => by
        cases i with
        | zero => simpa [atL] using hdb.1
        | succ i => have := (atL_dgs R i).1; simpa [atL] using this), listF_atL]
      simp only [valL, (dgs_is R).2]; omega
    have hrt := row_trim (g := atL (d :: dgs R)) (n := (d :: dgs R).length) (x := L2) (fun i hi => by
        cases i with
        | zero => simpa [atL] using hdb
        | succ i => have := (atL_dgs R i); simpa [atL] using this) hvl
    rw [← row_atL] at hrt
    have hle := trimN_le (atL (d :: dgs R)) (d :: dgs R).length
    obtain ⟨m, hm⟩ : ∃ m, trimN (atL (d :: dgs R)) (d :: dgs R).length = m := ⟨_, rfl⟩
    rw [hm] at hto hrt hle
    simp only [List.map_cons, List.length_cons] at hto hrt hle
    have hR9 : (dgs R).length + 1 ≤ 8589934592 := by omega
    have hR7 : 1 + (dgs R).length = (dgs R).length + 1 := Nat.add_comm ..
    have hR8 : (dgs R).length ≤ 8589934591 := by omega
    have hkk : k ≤ 8589934591 := by omega
    have hro := rowF_snoc (quoD A C) k
    refine WpC.skip ?_
    refine WpC.seq ?_
    refine WpC.block ?_
    refine WpC.seq (WpC.ops tabOk (r := []) (by simp -implicitDefEqProofs [hLn, hw0, p0, dgs_zero, hz0, d34, hjA, hjL, hd, hR, hjw, hR9, hR7, hR8, hkk, hle] <;> rfl) rfl ?_)
    refine WpC.gh (Gh.nilArr 3 1 (t := 15) (by simp) (by simp)) ?_
    refine WpC.seq (WpC.ops tabOk (r := []) (by simp -implicitDefEqProofs [hLn, hw0, p0, dgs_zero, hz0, d34, hjA, hjL, hd, hR, hjw, hR9, hR7, hR8, hkk, hle] <;> rfl) rfl ?_)
    refine WpC.seq ?_
    refine WpC.region ?_
    refine WpO.run tabOk 3 (by simp -implicitDefEqProofs [hLn, hw0, p0, dgs_zero, hz0, d34, hjA, hjL, hd, hR, hjw, hR9, hR7, hR8, hkk, hle] <;> first | exact ⟨rfl, rfl⟩ | rfl) ?_
    refine WpO.callP [6] (by simp) rfl (by simp -implicitDefEqProofs [hLn, hw0, p0, dgs_zero, hz0, d34, hjA, hjL, hd, hR, hjw, hR9, hR7, hR8, hkk, hle] <;> rfl) (by simp -implicitDefEqProofs [hLn, hw0, p0, dgs_zero, hz0, d34, hjA, hjL, hd, hR, hjw, hR9, hR7, hR8, hkk, hle] <;> rfl) call_54 (by simp) (by simp) (by simp) (by simp -implicitDefEqProofs [hLn, hw0, p0, dgs_zero, hz0, d34, hjA, hjL, hd, hR, hjw, hR9, hR7, hR8, hkk, hle]) (by simp; rfl) (by simp -implicitDefEqProofs [hLn, hw0, p0, dgs_zero, hz0, d34, hjA, hjL, hd, hR, hjw, hR9, hR7, hR8, hkk, hle]) ( hto) fun r S1 hr => ?_
    obtain ⟨rfl, rfl⟩ := hr
    refine ⟨_, by simp -implicitDefEqProofs [hLn, hw0, p0, dgs_zero, hz0, d34, hjA, hjL, hd, hR, hjw, hR9, hR7, hR8, hkk, hle] <;> rfl, ?_⟩
    refine WpO.run tabOk 1 (by simp -implicitDefEqProofs [hLn, hw0, p0, dgs_zero, hz0, d34, hjA, hjL, hd, hR, hjw, hR9, hR7, hR8, hkk, hle] <;> first | exact ⟨rfl, rfl⟩ | rfl) ?_
    refine WpO.nil ?_
    refine WpC.gh (Gh.frz [6]) ?_
    refine WpC.gh (Gh.view (t := 12) (x := .sl 6 m) (y := .d (.list 1 ((dgs L2).map dI))) (by simp) (by simp [hrt, hle])) ?_
    refine WpC.seq (WpC.ops tabOk (r := []) (by simp -implicitDefEqProofs [hLn, hw0, p0, dgs_zero, hz0, d34, hjA, hjL, hd, hR, hjw, hR9, hR7, hR8, hkk, hle] <;> rfl) rfl ?_)
    refine WpC.seq ?_
    refine WpC.block ?_
    refine WpC.loopM [3, 10, 11, 13, 14] [12, 16] (fun x => x.1) ((L2, 0) : Nat × Nat) (fun x => [(12, .d (.list 1 ((dgs x.1).map dI))), (16, .d (dI (x.2 : Nat)))]) (fun x => [.cells 77 [.d (.bool pm), .d (.list 1 ((dgs A).map dI))], .cells 77 [.d (.bool cm), .d (.list 1 ((dgs C).map dI))], .arr 3 1 (rowF (quoD A C) k)]) (fun x => L2 = x.1 + x.2 * C) (by simp -implicitDefEqProofs [hLn, hw0, p0, dgs_zero, hz0, d34, hjA, hjL, hd, hR, hjw, hR9, hR7, hR8, hkk, hle] <;> rfl) (Gh.cut' [12, 16, 3, 10, 11, 13, 14] 3 (by simp -implicitDefEqProofs [hLn, hw0, p0, dgs_zero, hz0, d34, hjA, hjL, hd, hR, hjw, hR9, hR7, hR8, hkk, hle]) (by simp -implicitDefEqProofs [hLn, hw0, p0, dgs_zero, hz0, d34, hjA, hjL, hd, hR, hjw, hR9, hR7, hR8, hkk, hle]) rfl (by simp) (by simp) (by simp)) (by simp) ?_
    rintro x hi
    simp only [List.cons_append, List.nil_append]
    obtain ⟨x, e⟩ := x
    simp only at hi ⊢
    have hL2b : L2 < 10 * C := by omega
    have he10 : e < 10 := Nat.lt_of_mul_lt_mul_right (a := C) (by omega)
    have hxl : (dgs x).length ≤ 21 := dgs_len_le (by omega)
    have hsz2 := sizeB_ok (dgs x) (dgs C) (by omega) (by omega)
    rw [size_dgs] at hsz2
    have hew : IntKind.i64.wrap ((e : Int) + 1) = e + 1 := wrapI (by omega) (by omega)
    have hls := fun h => lessB_ok x C h (by omega)
    have hgq := sgn_geq x C
    refine WpC.seq ?_
    refine WpC.seq ?_
    refine WpC.region ?_
    refine WpO.run tabOk 3 (by simp -implicitDefEqProofs [hLn, hw0, p0, dgs_zero, hz0, d34, hjA, hjL, hd, hR, hjw, hR9, hR7, hR8, hkk, hle, hew, hgq] <;> first | exact ⟨rfl, rfl⟩ | rfl) ?_
    refine WpO.data (by simp) rfl (by simp -implicitDefEqProofs [hLn, hw0, p0, dgs_zero, hz0, d34, hjA, hjL, hd, hR, hjw, hR9, hR7, hR8, hkk, hle, hew, hgq] <;> rfl) (by simp -implicitDefEqProofs [hLn, hw0, p0, dgs_zero, hz0, d34, hjA, hjL, hd, hR, hjw, hR9, hR7, hR8, hkk, hle, hew, hgq] <;> rfl) (by simp -implicitDefEqProofs [hLn, hw0, p0, dgs_zero, hz0, d34, hjA, hjL, hd, hR, hjw, hR9, hR7, hR8, hkk, hle, hew, hgq] <;> rfl) call_55 (by simp) (hsz2) (by rfl) (by simp -implicitDefEqProofs [hLn, hw0, p0, dgs_zero, hz0, d34, hjA, hjL, hd, hR, hjw, hR9, hR7, hR8, hkk, hle, hew, hgq] <;> rfl) ?_
    refine WpO.run tabOk 1 (by simp -implicitDefEqProofs [hLn, hw0, p0, dgs_zero, hz0, d34, hjA, hjL, hd, hR, hjw, hR9, hR7, hR8, hkk, hle, hew, hgq] <;> first | exact ⟨rfl, rfl⟩ | rfl) ?_
    refine WpO.nil ?_
    refine WpC.condD (C ≤ x) (by simp -implicitDefEqProofs [hLn, hw0, p0, dgs_zero, hz0, d34, hjA, hjL, hd, hR, hjw, hR9, hR7, hR8, hkk, hle, hew, hgq]) (fun d53 => ?_) (fun d53 => ?_)
    · refine WpC.skip ?_
      refine WpC.block ?_
      refine WpC.seq ?_
      refine WpC.region ?_
      refine WpO.run tabOk 3 (by simp -implicitDefEqProofs [hLn, hw0, p0, dgs_zero, hz0, d34, hjA, hjL, hd, hR, hjw, hR9, hR7, hR8, hkk, hle, hew, hgq, d53] <;> first | exact ⟨rfl, rfl⟩ | rfl) ?_
      refine WpO.data (by simp) rfl (by simp -implicitDefEqProofs [hLn, hw0, p0, dgs_zero, hz0, d34, hjA, hjL, hd, hR, hjw, hR9, hR7, hR8, hkk, hle, hew, hgq, d53] <;> rfl) (by simp -implicitDefEqProofs [hLn, hw0, p0, dgs_zero, hz0, d34, hjA, hjL, hd, hR, hjw, hR9, hR7, hR8, hkk, hle, hew, hgq, d53] <;> rfl) (by simp -implicitDefEqProofs [hLn, hw0, p0, dgs_zero, hz0, d34, hjA, hjL, hd, hR, hjw, hR9, hR7, hR8, hkk, hle, hew, hgq, d53] <;> rfl) call_56 (by simp) (hls d53) (by rfl) (by simp -implicitDefEqProofs [hLn, hw0, p0, dgs_zero, hz0, d34, hjA, hjL, hd, hR, hjw, hR9, hR7, hR8, hkk, hle, hew, hgq, d53] <;> rfl) ?_
      refine WpO.run tabOk 1 (by simp -implicitDefEqProofs [hLn, hw0, p0, dgs_zero, hz0, d34, hjA, hjL, hd, hR, hjw, hR9, hR7, hR8, hkk, hle, hew, hgq, d53] <;> first | exact ⟨rfl, rfl⟩ | rfl) ?_
      refine WpO.nil ?_
      refine WpC.ops tabOk (r := []) (by simp -implicitDefEqProofs [hLn, hw0, p0, dgs_zero, hz0, d34, hjA, hjL, hd, hR, hjw, hR9, hR7, hR8, hkk, hle, hew, hgq, d53] <;> rfl) rfl ?_
      exact ⟨(x - C, e + 1), by simp only; rw [hi, Nat.add_mul]; omega, by simp; omega, Gh.cut' [12, 16, 3, 10, 11, 13, 14] 3 (by simp -implicitDefEqProofs [hLn, hw0, p0, dgs_zero, hz0, d34, hjA, hjL, hd, hR, hjw, hR9, hR7, hR8, hkk, hle, hew, hgq, d53]) (by simp -implicitDefEqProofs [hLn, hw0, p0, dgs_zero, hz0, d34, hjA, hjL, hd, hR, hjw, hR9, hR7, hR8, hkk, hle, hew, hgq, d53]) rfl (by simp) (by simp) (by simp)⟩
    · have hxe : e = L2 / C ∧ x = L2 % C := by
        rw [hi, Nat.add_mul_div_right _ _ hC0, Nat.add_mul_mod_self_right, Nat.div_eq_of_lt (by omega), Nat.mod_eq_of_lt (by omega)]
        omega
      have hst2 : preN A (k + 1) % C = x := by rw [hP2, hds.2, hxe.2]
      have hqe : quoD A C k = e := by rw [hqd, hds.1, ← hxe.1]; omega
      rw [hqe] at hro
      refine WpC.exit ?_
      refine WpC.ops tabOk (r := []) (by simp -implicitDefEqProofs [hLn, hw0, p0, dgs_zero, hz0, d34, hjA, hjL, hd, hR, hjw, hR9, hR7, hR8, hkk, hle, hew, hgq, d53] <;> rfl) rfl ?_
      refine WpC.ops tabOk (r := []) (by simp -implicitDefEqProofs [hLn, hw0, p0, dgs_zero, hz0, d34, hjA, hjL, hd, hR, hjw, hR9, hR7, hR8, hkk, hle, hew, hgq, d53] <;> rfl) rfl ?_
      exact ⟨k + 1, by omega, by omega, Gh.pick [12, 13, 14, 3, 10, 11] [0, 1, 4] (by simp; rfl) (by simp [hst2]) (by simp) (by simp) (by simp; rfl) (by simp [hro]) (by simp)⟩
  · obtain rfl : L = k := by omega
    rw [pL, hr]
    have hqL : preN A L / C = q := by rw [pL, hq]
    have hsg1 := sgn_gt (2 * r) C
    have hsg2 := sgn_eq (2 * r) C
    obtain ⟨sg, hsgn⟩ : ∃ z, sgnI (((2 * r : Nat) : Int) - C) = z := ⟨_, rfl⟩
    rw [hsgn] at hsg1 hsg2 hs1
    have hrow : (rowF (quoD A C) L).length = L := by simp
    refine WpC.exit ?_
    refine WpC.seq ?_
    refine WpC.gh (Gh.frz [2]) ?_
    refine WpC.gh (Gh.view (t := 13) (x := .sl 2 L) (y := .d (.list 1 (rowF (quoD A C) L))) (by simp) (by simp)) ?_
    refine WpC.val 17 (.d (.bool (decide (q % 2 = 1)))) ?_ ?_
    · refine WpC.region ?_
      refine WpO.run tabOk 4 (by simp -implicitDefEqProofs [hLn, hw0, p0, dgs_zero, hz0, d34, hsg1, hsg2, dgr0] <;> first | exact ⟨rfl, rfl⟩ | rfl) ?_
      refine WpO.splitB 67 (by simp -implicitDefEqProofs [hLn, hw0, p0, dgs_zero, hz0, d34, hsg1, hsg2, dgr0] <;> rfl) (by rfl) (fun g67 => ?_) (fun g67 => ?_)
      · have g67' := g67; first | simp only [dT, dF] at g67' | try simp at g67'
        obtain ⟨l, rfl⟩ : ∃ l, L = l + 1 := ⟨L - 1, by simp at g67; omega⟩
        have hwl : IntKind.i64.wrap ((l : Int)) = l := wrapI (by omega) (by omega)
        have hll : l < l + 1 := by omega
        have hodd : ((quoD A C l).tmod 2 = 1) = (q % 2 = 1) := propext (by
          have h1 := pst l hll
          have h2 := ddig (l + 1 - 1 - l)
          have h3 := (div_step (d := (atL (dgs A) (l + 1 - 1 - l)).toNat) hC0 (show preN A (l + 1) = 10 * preN A l + (atL (dgs A) (l + 1 - 1 - l)).toNat by omega)).1
          rw [hqL] at h3
          unfold quoD
          rw [hqL]
          obtain ⟨E, hE⟩ : ∃ E, (10 * (preN A l % C) + (atL (dgs A) (l + 1 - 1 - l)).toNat) / C = E := ⟨_, rfl⟩
          obtain ⟨F, hF⟩ : ∃ E, preN A l / C = E := ⟨_, rfl⟩
          rw [hE, hF] at h3
          rw [hF, Int.tmod_eq_emod_of_nonneg (by omega)]
          omega)
        refine WpO.run tabOk 10 (by simp -implicitDefEqProofs [hLn, hw0, p0, dgs_zero, hz0, d34, hsg1, hsg2, dgr0, g67, hwl, hll, hodd] <;> first | exact ⟨rfl, rfl⟩ | rfl) ?_
        refine WpO.nil ?_
        refine ⟨rfl, Gh.only 17 15 ?_ (by first | rfl | simp -implicitDefEqProofs [hLn, hw0, p0, dgs_zero, hz0, d34, hsg1, hsg2, dgr0, g67, hwl, hll, hodd]) (by rfl)⟩
        simp -implicitDefEqProofs [hLn, hw0, p0, dgs_zero, hz0, d34, hsg1, hsg2, dgr0, g67, hwl, hll, hodd, g67']
      · have g67' := g67; first | simp only [dT, dF] at g67' | try simp at g67'
        have hk0 : L = 0 := by simpa using g67
        have hq0 : q = 0 := hA0 hk0
        refine WpO.run tabOk 10 (by simp -implicitDefEqProofs [hLn, hw0, p0, dgs_zero, hz0, d34, hsg1, hsg2, dgr0, g67, hq0] <;> first | exact ⟨rfl, rfl⟩ | rfl) ?_
        refine WpO.nil ?_
        refine ⟨rfl, Gh.only 17 15 ?_ (by first | rfl | simp -implicitDefEqProofs [hLn, hw0, p0, dgs_zero, hz0, d34, hsg1, hsg2, dgr0, g67, hq0]) (by rfl)⟩
        simp -implicitDefEqProofs [hLn, hw0, p0, dgs_zero, hz0, d34, hsg1, hsg2, dgr0, g67, hq0, g67']
    refine WpC.seq ?_
    refine WpC.drawn tabOk (by kernel_rfl) 0 (by simp) ?_
    refine DrO.run (fz := []) 1 (by simp -implicitDefEqProofs [hLn, hw0, p0, dgs_zero, hz0, d34, hsg1, hsg2, dgr0] <;> first | exact ⟨rfl, rfl, rfl, rfl⟩ | rfl) ?_
    refine DrO.data (by simp) rfl (by simp -implicitDefEqProofs [hLn, hw0, p0, dgs_zero, hz0, d34, hsg1, hsg2, dgr0] <;> rfl) (by simp -implicitDefEqProofs [hLn, hw0, p0, dgs_zero, hz0, d34, hsg1, hsg2, dgr0] <;> rfl) (by simp -implicitDefEqProofs [hLn, hw0, p0, dgs_zero, hz0, d34, hsg1, hsg2, dgr0] <;> rfl) call_57 (hd1) (by rfl) (by simp -implicitDefEqProofs [hLn, hw0, p0, dgs_zero, hz0, d34, hsg1, hsg2, dgr0] <;> rfl) ?_
    refine DrO.run (fz := []) 2 (by simp -implicitDefEqProofs [hLn, hw0, p0, dgs_zero, hz0, d34, hsg1, hsg2, dgr0] <;> first | exact ⟨rfl, rfl, rfl, rfl⟩ | rfl) ?_
    refine DrO.data (by simp) rfl (by simp -implicitDefEqProofs [hLn, hw0, p0, dgs_zero, hz0, d34, hsg1, hsg2, dgr0] <;> rfl) (by simp -implicitDefEqProofs [hLn, hw0, p0, dgs_zero, hz0, d34, hsg1, hsg2, dgr0] <;> rfl) (by simp -implicitDefEqProofs [hLn, hw0, p0, dgs_zero, hz0, d34, hsg1, hsg2, dgr0] <;> rfl) call_55 (hs1) (by rfl) (by simp -implicitDefEqProofs [hLn, hw0, p0, dgs_zero, hz0, d34, hsg1, hsg2, dgr0] <;> rfl) ?_
    refine DrO.run (fz := []) 1 (by simp -implicitDefEqProofs [hLn, hw0, p0, dgs_zero, hz0, d34, hsg1, hsg2, dgr0] <;> first | exact ⟨rfl, rfl, rfl, rfl⟩ | rfl) ?_
    refine DrO.nil ⟨by kernel_rfl, ?_⟩
    refine WpC.seq ?_
    refine WpC.val 19 (.d (.bool (mo))) ?_ ?_
    · refine WpC.region ?_
      refine WpO.run tabOk 3 (by simp -implicitDefEqProofs [hLn, hw0, p0, dgs_zero, hz0, d34, hsg1, hsg2, dgr0] <;> first | exact ⟨rfl, rfl⟩ | rfl) ?_
      refine WpO.splitB 84 (by simp -implicitDefEqProofs [hLn, hw0, p0, dgs_zero, hz0, d34, hsg1, hsg2, dgr0] <;> rfl) (by rfl) (fun g84 => ?_) (fun g84 => ?_)
      · have g84' := g84; first | simp only [dT, dF] at g84' | try simp at g84'
        refine WpO.run tabOk 5 (by simp -implicitDefEqProofs [hLn, hw0, p0, dgs_zero, hz0, d34, hsg1, hsg2, dgr0, g84] <;> first | exact ⟨rfl, rfl⟩ | rfl) ?_
        refine WpO.splitB 89 (by simp -implicitDefEqProofs [hLn, hw0, p0, dgs_zero, hz0, d34, hsg1, hsg2, dgr0, g84] <;> rfl) (by rfl) (fun g89 => ?_) (fun g89 => ?_)
        · have g89' := g89; first | simp only [dT, dF] at g89' | try simp at g89'
          refine WpO.run tabOk 23 (by simp -implicitDefEqProofs [hLn, hw0, p0, dgs_zero, hz0, d34, hsg1, hsg2, dgr0, g84, g89] <;> first | exact ⟨rfl, rfl⟩ | rfl) ?_
          refine WpO.nil ?_
          refine ⟨rfl, Gh.only 19 33 ?_ (by first | rfl | simp -implicitDefEqProofs [hLn, hw0, p0, dgs_zero, hz0, d34, hsg1, hsg2, dgr0, g84, g89]) (by rfl)⟩
          rw [← hmo]; unfold moreB; simp_all <;> omega
        · have g89' := g89; first | simp only [dT, dF] at g89' | try simp at g89'
          refine WpO.run tabOk 3 (by simp -implicitDefEqProofs [hLn, hw0, p0, dgs_zero, hz0, d34, hsg1, hsg2, dgr0, g84, g89] <;> first | exact ⟨rfl, rfl⟩ | rfl) ?_
          refine WpO.splitB 92 (by simp -implicitDefEqProofs [hLn, hw0, p0, dgs_zero, hz0, d34, hsg1, hsg2, dgr0, g84, g89] <;> rfl) (by rfl) (fun g92 => ?_) (fun g92 => ?_)
          · have g92' := g92; first | simp only [dT, dF] at g92' | try simp at g92'
            refine WpO.run tabOk 5 (by simp -implicitDefEqProofs [hLn, hw0, p0, dgs_zero, hz0, d34, hsg1, hsg2, dgr0, g84, g89, g92] <;> first | exact ⟨rfl, rfl⟩ | rfl) ?_
            refine WpO.splitB 97 (by simp -implicitDefEqProofs [hLn, hw0, p0, dgs_zero, hz0, d34, hsg1, hsg2, dgr0, g84, g89, g92] <;> rfl) (by rfl) (fun g97 => ?_) (fun g97 => ?_)
            · have g97' := g97; first | simp only [dT, dF] at g97' | try simp at g97'
              refine WpO.run tabOk 15 (by simp -implicitDefEqProofs [hLn, hw0, p0, dgs_zero, hz0, d34, hsg1, hsg2, dgr0, g84, g89, g92, g97] <;> first | exact ⟨rfl, rfl⟩ | rfl) ?_
              refine WpO.nil ?_
              refine ⟨rfl, Gh.only 19 35 ?_ (by first | rfl | simp -implicitDefEqProofs [hLn, hw0, p0, dgs_zero, hz0, d34, hsg1, hsg2, dgr0, g84, g89, g92, g97]) (by rfl)⟩
              rw [← hmo]; unfold moreB; simp_all <;> omega
            · have g97' := g97; first | simp only [dT, dF] at g97' | try simp at g97'
              refine WpO.run tabOk 3 (by simp -implicitDefEqProofs [hLn, hw0, p0, dgs_zero, hz0, d34, hsg1, hsg2, dgr0, g84, g89, g92, g97] <;> first | exact ⟨rfl, rfl⟩ | rfl) ?_
              refine WpO.splitB 100 (by simp -implicitDefEqProofs [hLn, hw0, p0, dgs_zero, hz0, d34, hsg1, hsg2, dgr0, g84, g89, g92, g97] <;> rfl) (by rfl) (fun g100 => ?_) (fun g100 => ?_)
              · have g100' := g100; first | simp only [dT, dF] at g100' | try simp at g100'
                refine WpO.run tabOk 3 (by simp -implicitDefEqProofs [hLn, hw0, p0, dgs_zero, hz0, d34, hsg1, hsg2, dgr0, g84, g89, g92, g97, g100] <;> first | exact ⟨rfl, rfl⟩ | rfl) ?_
                refine WpO.splitB 103 (by simp -implicitDefEqProofs [hLn, hw0, p0, dgs_zero, hz0, d34, hsg1, hsg2, dgr0, g84, g89, g92, g97, g100] <;> rfl) (by rfl) (fun g103 => ?_) (fun g103 => ?_)
                · have g103' := g103; first | simp only [dT, dF] at g103' | try simp at g103'
                  refine WpO.run tabOk 9 (by simp -implicitDefEqProofs [hLn, hw0, p0, dgs_zero, hz0, d34, hsg1, hsg2, dgr0, g84, g89, g92, g97, g100, g103] <;> first | exact ⟨rfl, rfl⟩ | rfl) ?_
                  refine WpO.nil ?_
                  refine ⟨rfl, Gh.only 19 37 ?_ (by first | rfl | simp -implicitDefEqProofs [hLn, hw0, p0, dgs_zero, hz0, d34, hsg1, hsg2, dgr0, g84, g89, g92, g97, g100, g103]) (by rfl)⟩
                  rw [← hmo]; unfold moreB; simp_all <;> omega
                · have g103' := g103; first | simp only [dT, dF] at g103' | try simp at g103'
                  refine WpO.run tabOk 3 (by simp -implicitDefEqProofs [hLn, hw0, p0, dgs_zero, hz0, d34, hsg1, hsg2, dgr0, g84, g89, g92, g97, g100, g103] <;> first | exact ⟨rfl, rfl⟩ | rfl) ?_
                  refine WpO.splitB 106 (by simp -implicitDefEqProofs [hLn, hw0, p0, dgs_zero, hz0, d34, hsg1, hsg2, dgr0, g84, g89, g92, g97, g100, g103] <;> rfl) (by rfl) (fun g106 => ?_) (fun g106 => ?_)
                  · have g106' := g106; first | simp only [dT, dF] at g106' | try simp at g106'
                    refine WpO.run tabOk 6 (by simp -implicitDefEqProofs [hLn, hw0, p0, dgs_zero, hz0, d34, hsg1, hsg2, dgr0, g84, g89, g92, g97, g100, g103, g106] <;> first | exact ⟨rfl, rfl⟩ | rfl) ?_
                    refine WpO.nil ?_
                    refine ⟨rfl, Gh.only 19 38 ?_ (by first | rfl | simp -implicitDefEqProofs [hLn, hw0, p0, dgs_zero, hz0, d34, hsg1, hsg2, dgr0, g84, g89, g92, g97, g100, g103, g106]) (by rfl)⟩
                    rw [← hmo]; unfold moreB; simp_all <;> omega
                  · have g106' := g106; first | simp only [dT, dF] at g106' | try simp at g106'
                    refine WpO.run tabOk 6 (by simp -implicitDefEqProofs [hLn, hw0, p0, dgs_zero, hz0, d34, hsg1, hsg2, dgr0, g84, g89, g92, g97, g100, g103, g106] <;> first | exact ⟨rfl, rfl⟩ | rfl) ?_
                    refine WpO.nil ?_
                    refine ⟨rfl, Gh.only 19 38 ?_ (by first | rfl | simp -implicitDefEqProofs [hLn, hw0, p0, dgs_zero, hz0, d34, hsg1, hsg2, dgr0, g84, g89, g92, g97, g100, g103, g106]) (by rfl)⟩
                    rw [← hmo]; unfold moreB; simp_all <;> omega
              · have g100' := g100; first | simp only [dT, dF] at g100' | try simp at g100'
                refine WpO.run tabOk 12 (by simp -implicitDefEqProofs [hLn, hw0, p0, dgs_zero, hz0, d34, hsg1, hsg2, dgr0, g84, g89, g92, g97, g100] <;> first | exact ⟨rfl, rfl⟩ | rfl) ?_
                refine WpO.nil ?_
                refine ⟨rfl, Gh.only 19 36 ?_ (by first | rfl | simp -implicitDefEqProofs [hLn, hw0, p0, dgs_zero, hz0, d34, hsg1, hsg2, dgr0, g84, g89, g92, g97, g100]) (by rfl)⟩
                rw [← hmo]; unfold moreB; simp_all <;> omega
          · have g92' := g92; first | simp only [dT, dF] at g92' | try simp at g92'
            refine WpO.run tabOk 8 (by simp -implicitDefEqProofs [hLn, hw0, p0, dgs_zero, hz0, d34, hsg1, hsg2, dgr0, g84, g89, g92] <;> first | exact ⟨rfl, rfl⟩ | rfl) ?_
            refine WpO.splitB 100 (by simp -implicitDefEqProofs [hLn, hw0, p0, dgs_zero, hz0, d34, hsg1, hsg2, dgr0, g84, g89, g92] <;> rfl) (by rfl) (fun g100 => ?_) (fun g100 => ?_)
            · have g100' := g100; first | simp only [dT, dF] at g100' | try simp at g100'
              refine WpO.run tabOk 3 (by simp -implicitDefEqProofs [hLn, hw0, p0, dgs_zero, hz0, d34, hsg1, hsg2, dgr0, g84, g89, g92, g100] <;> first | exact ⟨rfl, rfl⟩ | rfl) ?_
              refine WpO.splitB 103 (by simp -implicitDefEqProofs [hLn, hw0, p0, dgs_zero, hz0, d34, hsg1, hsg2, dgr0, g84, g89, g92, g100] <;> rfl) (by rfl) (fun g103 => ?_) (fun g103 => ?_)
              · have g103' := g103; first | simp only [dT, dF] at g103' | try simp at g103'
                refine WpO.run tabOk 9 (by simp -implicitDefEqProofs [hLn, hw0, p0, dgs_zero, hz0, d34, hsg1, hsg2, dgr0, g84, g89, g92, g100, g103] <;> first | exact ⟨rfl, rfl⟩ | rfl) ?_
                refine WpO.nil ?_
                refine ⟨rfl, Gh.only 19 36 ?_ (by first | rfl | simp -implicitDefEqProofs [hLn, hw0, p0, dgs_zero, hz0, d34, hsg1, hsg2, dgr0, g84, g89, g92, g100, g103]) (by rfl)⟩
                rw [← hmo]; unfold moreB; simp_all <;> omega
              · have g103' := g103; first | simp only [dT, dF] at g103' | try simp at g103'
                refine WpO.run tabOk 3 (by simp -implicitDefEqProofs [hLn, hw0, p0, dgs_zero, hz0, d34, hsg1, hsg2, dgr0, g84, g89, g92, g100, g103] <;> first | exact ⟨rfl, rfl⟩ | rfl) ?_
                refine WpO.splitB 106 (by simp -implicitDefEqProofs [hLn, hw0, p0, dgs_zero, hz0, d34, hsg1, hsg2, dgr0, g84, g89, g92, g100, g103] <;> rfl) (by rfl) (fun g106 => ?_) (fun g106 => ?_)
                · have g106' := g106; first | simp only [dT, dF] at g106' | try simp at g106'
                  refine WpO.run tabOk 6 (by simp -implicitDefEqProofs [hLn, hw0, p0, dgs_zero, hz0, d34, hsg1, hsg2, dgr0, g84, g89, g92, g100, g103, g106] <;> first | exact ⟨rfl, rfl⟩ | rfl) ?_
                  refine WpO.nil ?_
                  refine ⟨rfl, Gh.only 19 37 ?_ (by first | rfl | simp -implicitDefEqProofs [hLn, hw0, p0, dgs_zero, hz0, d34, hsg1, hsg2, dgr0, g84, g89, g92, g100, g103, g106]) (by rfl)⟩
                  rw [← hmo]; unfold moreB; simp_all <;> omega
                · have g106' := g106; first | simp only [dT, dF] at g106' | try simp at g106'
                  refine WpO.run tabOk 6 (by simp -implicitDefEqProofs [hLn, hw0, p0, dgs_zero, hz0, d34, hsg1, hsg2, dgr0, g84, g89, g92, g100, g103, g106] <;> first | exact ⟨rfl, rfl⟩ | rfl) ?_
                  refine WpO.nil ?_
                  refine ⟨rfl, Gh.only 19 37 ?_ (by first | rfl | simp -implicitDefEqProofs [hLn, hw0, p0, dgs_zero, hz0, d34, hsg1, hsg2, dgr0, g84, g89, g92, g100, g103, g106]) (by rfl)⟩
                  rw [← hmo]; unfold moreB; simp_all <;> omega
            · have g100' := g100; first | simp only [dT, dF] at g100' | try simp at g100'
              refine WpO.run tabOk 12 (by simp -implicitDefEqProofs [hLn, hw0, p0, dgs_zero, hz0, d34, hsg1, hsg2, dgr0, g84, g89, g92, g100] <;> first | exact ⟨rfl, rfl⟩ | rfl) ?_
              refine WpO.nil ?_
              refine ⟨rfl, Gh.only 19 35 ?_ (by first | rfl | simp -implicitDefEqProofs [hLn, hw0, p0, dgs_zero, hz0, d34, hsg1, hsg2, dgr0, g84, g89, g92, g100]) (by rfl)⟩
              rw [← hmo]; unfold moreB; simp_all <;> omega
      · have g84' := g84; first | simp only [dT, dF] at g84' | try simp at g84'
        refine WpO.run tabOk 8 (by simp -implicitDefEqProofs [hLn, hw0, p0, dgs_zero, hz0, d34, hsg1, hsg2, dgr0, g84] <;> first | exact ⟨rfl, rfl⟩ | rfl) ?_
        refine WpO.splitB 92 (by simp -implicitDefEqProofs [hLn, hw0, p0, dgs_zero, hz0, d34, hsg1, hsg2, dgr0, g84] <;> rfl) (by rfl) (fun g92 => ?_) (fun g92 => ?_)
        · have g92' := g92; first | simp only [dT, dF] at g92' | try simp at g92'
          refine WpO.run tabOk 5 (by simp -implicitDefEqProofs [hLn, hw0, p0, dgs_zero, hz0, d34, hsg1, hsg2, dgr0, g84, g92] <;> first | exact ⟨rfl, rfl⟩ | rfl) ?_
          refine WpO.splitB 97 (by simp -implicitDefEqProofs [hLn, hw0, p0, dgs_zero, hz0, d34, hsg1, hsg2, dgr0, g84, g92] <;> rfl) (by rfl) (fun g97 => ?_) (fun g97 => ?_)
          · have g97' := g97; first | simp only [dT, dF] at g97' | try simp at g97'
            refine WpO.run tabOk 15 (by simp -implicitDefEqProofs [hLn, hw0, p0, dgs_zero, hz0, d34, hsg1, hsg2, dgr0, g84, g92, g97] <;> first | exact ⟨rfl, rfl⟩ | rfl) ?_
            refine WpO.nil ?_
            refine ⟨rfl, Gh.only 19 34 ?_ (by first | rfl | simp -implicitDefEqProofs [hLn, hw0, p0, dgs_zero, hz0, d34, hsg1, hsg2, dgr0, g84, g92, g97]) (by rfl)⟩
            rw [← hmo]; unfold moreB; simp_all <;> omega
          · have g97' := g97; first | simp only [dT, dF] at g97' | try simp at g97'
            refine WpO.run tabOk 3 (by simp -implicitDefEqProofs [hLn, hw0, p0, dgs_zero, hz0, d34, hsg1, hsg2, dgr0, g84, g92, g97] <;> first | exact ⟨rfl, rfl⟩ | rfl) ?_
            refine WpO.splitB 100 (by simp -implicitDefEqProofs [hLn, hw0, p0, dgs_zero, hz0, d34, hsg1, hsg2, dgr0, g84, g92, g97] <;> rfl) (by rfl) (fun g100 => ?_) (fun g100 => ?_)
            · have g100' := g100; first | simp only [dT, dF] at g100' | try simp at g100'
              refine WpO.run tabOk 3 (by simp -implicitDefEqProofs [hLn, hw0, p0, dgs_zero, hz0, d34, hsg1, hsg2, dgr0, g84, g92, g97, g100] <;> first | exact ⟨rfl, rfl⟩ | rfl) ?_
              refine WpO.splitB 103 (by simp -implicitDefEqProofs [hLn, hw0, p0, dgs_zero, hz0, d34, hsg1, hsg2, dgr0, g84, g92, g97, g100] <;> rfl) (by rfl) (fun g103 => ?_) (fun g103 => ?_)
              · have g103' := g103; first | simp only [dT, dF] at g103' | try simp at g103'
                refine WpO.run tabOk 9 (by simp -implicitDefEqProofs [hLn, hw0, p0, dgs_zero, hz0, d34, hsg1, hsg2, dgr0, g84, g92, g97, g100, g103] <;> first | exact ⟨rfl, rfl⟩ | rfl) ?_
                refine WpO.nil ?_
                refine ⟨rfl, Gh.only 19 36 ?_ (by first | rfl | simp -implicitDefEqProofs [hLn, hw0, p0, dgs_zero, hz0, d34, hsg1, hsg2, dgr0, g84, g92, g97, g100, g103]) (by rfl)⟩
                rw [← hmo]; unfold moreB; simp_all <;> omega
              · have g103' := g103; first | simp only [dT, dF] at g103' | try simp at g103'
                refine WpO.run tabOk 3 (by simp -implicitDefEqProofs [hLn, hw0, p0, dgs_zero, hz0, d34, hsg1, hsg2, dgr0, g84, g92, g97, g100, g103] <;> first | exact ⟨rfl, rfl⟩ | rfl) ?_
                refine WpO.splitB 106 (by simp -implicitDefEqProofs [hLn, hw0, p0, dgs_zero, hz0, d34, hsg1, hsg2, dgr0, g84, g92, g97, g100, g103] <;> rfl) (by rfl) (fun g106 => ?_) (fun g106 => ?_)
                · have g106' := g106; first | simp only [dT, dF] at g106' | try simp at g106'
                  refine WpO.run tabOk 6 (by simp -implicitDefEqProofs [hLn, hw0, p0, dgs_zero, hz0, d34, hsg1, hsg2, dgr0, g84, g92, g97, g100, g103, g106] <;> first | exact ⟨rfl, rfl⟩ | rfl) ?_
                  refine WpO.nil ?_
                  refine ⟨rfl, Gh.only 19 37 ?_ (by first | rfl | simp -implicitDefEqProofs [hLn, hw0, p0, dgs_zero, hz0, d34, hsg1, hsg2, dgr0, g84, g92, g97, g100, g103, g106]) (by rfl)⟩
                  rw [← hmo]; unfold moreB; simp_all <;> omega
                · have g106' := g106; first | simp only [dT, dF] at g106' | try simp at g106'
                  refine WpO.run tabOk 6 (by simp -implicitDefEqProofs [hLn, hw0, p0, dgs_zero, hz0, d34, hsg1, hsg2, dgr0, g84, g92, g97, g100, g103, g106] <;> first | exact ⟨rfl, rfl⟩ | rfl) ?_
                  refine WpO.nil ?_
                  refine ⟨rfl, Gh.only 19 37 ?_ (by first | rfl | simp -implicitDefEqProofs [hLn, hw0, p0, dgs_zero, hz0, d34, hsg1, hsg2, dgr0, g84, g92, g97, g100, g103, g106]) (by rfl)⟩
                  rw [← hmo]; unfold moreB; simp_all <;> omega
            · have g100' := g100; first | simp only [dT, dF] at g100' | try simp at g100'
              refine WpO.run tabOk 12 (by simp -implicitDefEqProofs [hLn, hw0, p0, dgs_zero, hz0, d34, hsg1, hsg2, dgr0, g84, g92, g97, g100] <;> first | exact ⟨rfl, rfl⟩ | rfl) ?_
              refine WpO.nil ?_
              refine ⟨rfl, Gh.only 19 35 ?_ (by first | rfl | simp -implicitDefEqProofs [hLn, hw0, p0, dgs_zero, hz0, d34, hsg1, hsg2, dgr0, g84, g92, g97, g100]) (by rfl)⟩
              rw [← hmo]; unfold moreB; simp_all <;> omega
        · have g92' := g92; first | simp only [dT, dF] at g92' | try simp at g92'
          refine WpO.run tabOk 8 (by simp -implicitDefEqProofs [hLn, hw0, p0, dgs_zero, hz0, d34, hsg1, hsg2, dgr0, g84, g92] <;> first | exact ⟨rfl, rfl⟩ | rfl) ?_
          refine WpO.splitB 100 (by simp -implicitDefEqProofs [hLn, hw0, p0, dgs_zero, hz0, d34, hsg1, hsg2, dgr0, g84, g92] <;> rfl) (by rfl) (fun g100 => ?_) (fun g100 => ?_)
          · have g100' := g100; first | simp only [dT, dF] at g100' | try simp at g100'
            refine WpO.run tabOk 3 (by simp -implicitDefEqProofs [hLn, hw0, p0, dgs_zero, hz0, d34, hsg1, hsg2, dgr0, g84, g92, g100] <;> first | exact ⟨rfl, rfl⟩ | rfl) ?_
            refine WpO.splitB 103 (by simp -implicitDefEqProofs [hLn, hw0, p0, dgs_zero, hz0, d34, hsg1, hsg2, dgr0, g84, g92, g100] <;> rfl) (by rfl) (fun g103 => ?_) (fun g103 => ?_)
            · have g103' := g103; first | simp only [dT, dF] at g103' | try simp at g103'
              refine WpO.run tabOk 9 (by simp -implicitDefEqProofs [hLn, hw0, p0, dgs_zero, hz0, d34, hsg1, hsg2, dgr0, g84, g92, g100, g103] <;> first | exact ⟨rfl, rfl⟩ | rfl) ?_
              refine WpO.nil ?_
              refine ⟨rfl, Gh.only 19 35 ?_ (by first | rfl | simp -implicitDefEqProofs [hLn, hw0, p0, dgs_zero, hz0, d34, hsg1, hsg2, dgr0, g84, g92, g100, g103]) (by rfl)⟩
              rw [← hmo]; unfold moreB; simp_all <;> omega
            · have g103' := g103; first | simp only [dT, dF] at g103' | try simp at g103'
              refine WpO.run tabOk 3 (by simp -implicitDefEqProofs [hLn, hw0, p0, dgs_zero, hz0, d34, hsg1, hsg2, dgr0, g84, g92, g100, g103] <;> first | exact ⟨rfl, rfl⟩ | rfl) ?_
              refine WpO.splitB 106 (by simp -implicitDefEqProofs [hLn, hw0, p0, dgs_zero, hz0, d34, hsg1, hsg2, dgr0, g84, g92, g100, g103] <;> rfl) (by rfl) (fun g106 => ?_) (fun g106 => ?_)
              · have g106' := g106; first | simp only [dT, dF] at g106' | try simp at g106'
                refine WpO.run tabOk 6 (by simp -implicitDefEqProofs [hLn, hw0, p0, dgs_zero, hz0, d34, hsg1, hsg2, dgr0, g84, g92, g100, g103, g106] <;> first | exact ⟨rfl, rfl⟩ | rfl) ?_
                refine WpO.nil ?_
                refine ⟨rfl, Gh.only 19 36 ?_ (by first | rfl | simp -implicitDefEqProofs [hLn, hw0, p0, dgs_zero, hz0, d34, hsg1, hsg2, dgr0, g84, g92, g100, g103, g106]) (by rfl)⟩
                rw [← hmo]; unfold moreB; simp_all <;> omega
              · have g106' := g106; first | simp only [dT, dF] at g106' | try simp at g106'
                refine WpO.run tabOk 6 (by simp -implicitDefEqProofs [hLn, hw0, p0, dgs_zero, hz0, d34, hsg1, hsg2, dgr0, g84, g92, g100, g103, g106] <;> first | exact ⟨rfl, rfl⟩ | rfl) ?_
                refine WpO.nil ?_
                refine ⟨rfl, Gh.only 19 36 ?_ (by first | rfl | simp -implicitDefEqProofs [hLn, hw0, p0, dgs_zero, hz0, d34, hsg1, hsg2, dgr0, g84, g92, g100, g103, g106]) (by rfl)⟩
                rw [← hmo]; unfold moreB; simp_all <;> omega
          · have g100' := g100; first | simp only [dT, dF] at g100' | try simp at g100'
            refine WpO.run tabOk 12 (by simp -implicitDefEqProofs [hLn, hw0, p0, dgs_zero, hz0, d34, hsg1, hsg2, dgr0, g84, g92, g100] <;> first | exact ⟨rfl, rfl⟩ | rfl) ?_
            refine WpO.nil ?_
            refine ⟨rfl, Gh.only 19 34 ?_ (by first | rfl | simp -implicitDefEqProofs [hLn, hw0, p0, dgs_zero, hz0, d34, hsg1, hsg2, dgr0, g84, g92, g100]) (by rfl)⟩
            rw [← hmo]; unfold moreB; simp_all <;> omega
    refine WpC.seq (WpC.ops tabOk (r := []) (by simp -implicitDefEqProofs [hLn, hw0, p0, dgs_zero, hz0, d34, hsg1, hsg2, dgr0] <;> rfl) rfl ?_)
    refine WpC.seq ?_
    have hq0 : qN A C 0 = 0 := by unfold qN; rw [p0]; simp
    refine WpC.seq (WpC.ops tabOk (r := []) (by simp -implicitDefEqProofs [hLn, hw0, p0, dgs_zero, hz0, d34, hsg1, hsg2, dgr0, hq0] <;> rfl) rfl ?_)
    refine WpC.block ?_
    refine WpC.loopK [10, 11, 13, 19] [20, 21] (L) (() : Unit) (fun k _ => [(20, .d (dI (qN A C k : Nat))), (21, .d (.int .i64 k))]) (fun k _ => [.cells 77 [.d (.bool pm), .d (.list 1 ((dgs A).map dI))], .cells 77 [.d (.bool cm), .d (.list 1 ((dgs C).map dI))]]) (fun k _ => qN A C k ≤ 9223372036854775807) (by simp -implicitDefEqProofs [hLn, hw0, p0, dgs_zero, hz0, d34, hsg1, hsg2, dgr0, hq0] <;> rfl) (Gh.cut' [20, 21, 10, 11, 13, 19] 2 (by simp -implicitDefEqProofs [hLn, hw0, p0, dgs_zero, hz0, d34, hsg1, hsg2, dgr0, hq0]) (by simp -implicitDefEqProofs [hLn, hw0, p0, dgs_zero, hz0, d34, hsg1, hsg2, dgr0, hq0]) rfl (by simp) (by simp) (by simp)) (by rw [hq0]; omega) ?_
    rintro k ⟨⟩ hk hi
    simp only [List.cons_append, List.nil_append]
    refine WpC.seq ?_
    refine WpC.seq (WpC.ops tabOk (r := []) (by simp -implicitDefEqProofs [hLn, hw0, p0, dgs_zero, hz0, d34, hsg1, hsg2, dgr0, hq0] <;> rfl) rfl ?_)
    refine WpC.condD (k < L) (by simp -implicitDefEqProofs [hLn, hw0, p0, dgs_zero, hz0, d34, hsg1, hsg2, dgr0, hq0] <;> omega) (fun hlt => ?_) (fun hge => ?_)
    · refine WpC.skip ?_
      have hkr : k < (rowF (quoD A C) L).length := by omega
      have h1 := pst k hlt
      have h2 := ddig (L - 1 - k)
      obtain ⟨dn, hdn⟩ : ∃ n : Nat, atL (dgs A) (L - 1 - k) = n := ⟨(atL (dgs A) (L - 1 - k)).toNat, by omega⟩
      have h3 := (div_step (d := dn) hC0 (show preN A (k + 1) = 10 * preN A k + dn by omega)).1
      have h4 : qN A C (k + 1) ≤ q := by rw [← hqL]; exact Nat.div_le_div_right (pmo _ _ hlt)
      have hqd : quoD A C k = (qN A C (k + 1) : Int) - 10 * (qN A C k : Int) := rfl
      have h3 : qN A C (k + 1) = 10 * qN A C k + (10 * (preN A k % C) + dn) / C := h3
      have hE9 : (10 * (preN A k % C) + dn) / C ≤ 9 := by
        have hm := Nat.mod_lt (preN A k) hC0
        have : 10 * (preN A k % C) + dn < 10 * C := by omega
        exact Nat.le_of_lt_succ (Nat.div_lt_of_lt_mul (by omega))
      obtain ⟨E, hE⟩ : ∃ E, (10 * (preN A k % C) + dn) / C = E := ⟨_, rfl⟩
      obtain ⟨F, hF⟩ : ∃ E, qN A C k = E := ⟨_, rfl⟩
      obtain ⟨F2, hF2⟩ : ∃ E, qN A C (k + 1) = E := ⟨_, rfl⟩
      rw [hF2, hF] at hqd
      rw [hE] at h3 hE9
      rw [hF2, hF] at h3
      rw [hF2] at h4
      have hqE : quoD A C k = E := by omega
      have hi2 : F ≤ 9223372036854775807 := by rw [← hF]; exact hi
      have hgt : (rowF (quoD A C) L)[k]? = some (dI E) := by rw [rowF_get hlt, hqE]
      rw [hF]
      have w1 : IntKind.i64.wrap (9223372036854775807 - (E : Int)) = 9223372036854775807 - E := wrapI (by omega) (by omega)
      have w2 : ((9223372036854775807 - (E : Int)).tdiv 10 < F) = (9223372036854775807 < F2) := propext (by
        rw [Int.tdiv_eq_ediv_of_nonneg (by omega)]; omega)
      have w4 : IntKind.i64.wrap ((9223372036854775807 - (E : Int)).tdiv 10) = (9223372036854775807 - (E : Int)).tdiv 10 := by
        rw [Int.tdiv_eq_ediv_of_nonneg (by omega)]; exact wrapI (by omega) (by omega)
      have hkw : IntKind.i64.wrap ((k : Int) + 1) = k + 1 := wrapI (by omega) (by omega)
      refine WpC.seq ?_
      refine WpC.block ?_
      refine WpC.seq ?_
      refine WpC.seq (WpC.ops tabOk (r := []) (by simp -implicitDefEqProofs [hLn, hw0, p0, dgs_zero, hz0, d34, hsg1, hsg2, dgr0, hq0, hlt, hqE, w1, w2, w4, hkw] <;> rfl) rfl ?_)
      refine WpC.condD (9223372036854775807 < F2) (by simp -implicitDefEqProofs [hLn, hw0, p0, dgs_zero, hz0, d34, hsg1, hsg2, dgr0, hq0, hlt, hqE, w1, w2, w4, hkw]) (fun d125 => ?_) (fun d125 => ?_)
      · refine WpC.seq (WpC.ops tabOk (r := []) (by simp -implicitDefEqProofs [hLn, hw0, p0, dgs_zero, hz0, d34, hsg1, hsg2, dgr0, hq0, hlt, hqE, w1, w2, w4, hkw, d125] <;> rfl) rfl ?_)
        refine WpC.ret ?_
        try simp only [blockQ, seqQ]
        refine retD_i (by simp -implicitDefEqProofs [hLn, hw0, p0, dgs_zero, hz0, d34, hsg1, hsg2, dgr0, hq0, hlt, hqE, w1, w2, w4, hkw, d125] <;> rfl) (by simp -implicitDefEqProofs [hLn, hw0, p0, dgs_zero, hz0, d34, hsg1, hsg2, dgr0, hq0, hlt, hqE, w1, w2, w4, hkw, d125] <;> rfl) ?_
        have hno : ¬ q + (if mo = true then 1 else 0) ≤ 9223372036854775807 := by omega
        simp [hno]
      · have w5 : IntKind.i64.wrap (10 * (F : Int)) = 10 * F := wrapI (by omega) (by omega)
        have w6 : IntKind.i64.wrap (10 * (F : Int) + E) = F2 := by rw [wrapI (by omega) (by omega)]; omega
        refine WpC.skip ?_
        refine WpC.ops tabOk (r := []) (by simp -implicitDefEqProofs [hLn, hw0, p0, dgs_zero, hz0, d34, hsg1, hsg2, dgr0, hq0, hlt, hqE, w1, w2, w4, hkw, d125, w5, w6] <;> rfl) rfl ?_
        refine WpC.ops tabOk (r := []) (by simp -implicitDefEqProofs [hLn, hw0, p0, dgs_zero, hz0, d34, hsg1, hsg2, dgr0, hq0, hlt, hqE, w1, w2, w4, hkw, d125, w5, w6] <;> rfl) rfl ?_
        exact ⟨hlt, (), by rw [hF2]; omega, Gh.cut' [20, 21, 10, 11, 13, 19] 2 (by simp -implicitDefEqProofs [hLn, hw0, p0, dgs_zero, hz0, d34, hsg1, hsg2, dgr0, hq0, hlt, hqE, w1, w2, w4, hkw, d125, w5, w6, hF2]) (by simp -implicitDefEqProofs [hLn, hw0, p0, dgs_zero, hz0, d34, hsg1, hsg2, dgr0, hq0, hlt, hqE, w1, w2, w4, hkw, d125, w5, w6, hF2]) rfl (by simp) (by simp) (by simp)⟩
    · refine WpC.exit ?_
      obtain rfl : L = k := by omega
      have hqL2 : qN A C L = q := hqL
      rw [hqL2] at hi ⊢
      have hqm : q ≤ 9223372036854775807 := hi
      have hqw : IntKind.i64.wrap ((q : Int) + 1) = (q : Int) + 1 ∨ q = 9223372036854775807 := by
        by_cases h : q = 9223372036854775807
        · exact .inr h
        · exact .inl (wrapI (by omega) (by omega))
      refine WpC.seq ?_
      refine WpC.seq (WpC.ops tabOk (r := []) (by simp -implicitDefEqProofs [hLn, hw0, p0, dgs_zero, hz0, d34, hsg1, hsg2, dgr0, hq0] <;> rfl) rfl ?_)
      refine WpC.condR (by simp -implicitDefEqProofs [hLn, hw0, p0, dgs_zero, hz0, d34, hsg1, hsg2, dgr0, hq0] <;> rfl) (by rfl) (fun c133 => ?_) (fun c133 => ?_)
      · have c133' := c133; first | simp only [dT, dF] at c133' | try simp at c133'
        refine WpC.seq ?_
        refine WpC.seq (WpC.ops tabOk (r := []) (by simp -implicitDefEqProofs [hLn, hw0, p0, dgs_zero, hz0, d34, hsg1, hsg2, dgr0, hq0, c133] <;> rfl) rfl ?_)
        refine WpC.condD ((q : Int) = 9223372036854775807) (by simp -implicitDefEqProofs [hLn, hw0, p0, dgs_zero, hz0, d34, hsg1, hsg2, dgr0, hq0, c133]) (fun d135 => ?_) (fun d135 => ?_)
        · refine WpC.seq (WpC.ops tabOk (r := []) (by simp -implicitDefEqProofs [hLn, hw0, p0, dgs_zero, hz0, d34, hsg1, hsg2, dgr0, hq0, c133, d135] <;> rfl) rfl ?_)
          refine WpC.ret ?_
          try simp only [blockQ, seqQ]
          refine retD_i (by simp -implicitDefEqProofs [hLn, hw0, p0, dgs_zero, hz0, d34, hsg1, hsg2, dgr0, hq0, c133, d135] <;> rfl) (by simp -implicitDefEqProofs [hLn, hw0, p0, dgs_zero, hz0, d34, hsg1, hsg2, dgr0, hq0, c133, d135] <;> rfl) ?_
          have hno : ¬ q + (if mo = true then 1 else 0) ≤ 9223372036854775807 := by rw [c133, if_pos rfl]; omega
          simp [hno]
        · have hyes : q + (if mo = true then 1 else 0) ≤ 9223372036854775807 := by rw [c133, if_pos rfl]; omega
          have hw7 : IntKind.i64.wrap ((q : Int) + 1) = (q : Int) + 1 := wrapI (by omega) (by omega)
          have hw8 : IntKind.i64.wrap (-((q : Int) + 1)) = -((q : Int) + 1) := wrapI (by omega) (by omega)
          refine WpC.skip ?_
          refine WpC.ops tabOk (r := []) (by simp -implicitDefEqProofs [hLn, hw0, p0, dgs_zero, hz0, d34, hsg1, hsg2, dgr0, hq0, c133, d135, hw7, hw8] <;> rfl) rfl ?_
          refine WpC.seq ?_
          refine WpC.seq (WpC.ops tabOk (r := []) (by simp -implicitDefEqProofs [hLn, hw0, p0, dgs_zero, hz0, d34, hsg1, hsg2, dgr0, hq0, c133, d135, hw7, hw8] <;> rfl) rfl ?_)
          refine WpC.condR (by simp -implicitDefEqProofs [hLn, hw0, p0, dgs_zero, hz0, d34, hsg1, hsg2, dgr0, hq0, c133, d135, hw7, hw8] <;> rfl) (by rfl) (fun c142 => ?_) (fun c142 => ?_)
          · have c142' := c142; first | simp only [dT, dF] at c142' | try simp at c142'
            refine WpC.ops tabOk (r := []) (by simp -implicitDefEqProofs [hLn, hw0, p0, dgs_zero, hz0, d34, hsg1, hsg2, dgr0, hq0, c133, d135, hw7, hw8, c142] <;> rfl) rfl ?_
            refine WpC.seq (WpC.ops tabOk (r := []) (by simp -implicitDefEqProofs [hLn, hw0, p0, dgs_zero, hz0, d34, hsg1, hsg2, dgr0, hq0, c133, d135, hw7, hw8, c142] <;> rfl) rfl ?_)
            refine WpC.ret ?_
            try simp only [blockQ, seqQ]
            refine retD_i (by simp -implicitDefEqProofs [hLn, hw0, p0, dgs_zero, hz0, d34, hsg1, hsg2, dgr0, hq0, c133, d135, hw7, hw8, c142] <;> rfl) (by simp -implicitDefEqProofs [hLn, hw0, p0, dgs_zero, hz0, d34, hsg1, hsg2, dgr0, hq0, c133, d135, hw7, hw8, c142] <;> rfl) ?_
            have h10 := hyes
            simp [c133] at h10
            simp [h10, c133, c142']
          · have c142' := c142; first | simp only [dT, dF] at c142' | try simp at c142'
            refine WpC.skip ?_
            refine WpC.seq (WpC.ops tabOk (r := []) (by simp -implicitDefEqProofs [hLn, hw0, p0, dgs_zero, hz0, d34, hsg1, hsg2, dgr0, hq0, c133, d135, hw7, hw8, c142] <;> rfl) rfl ?_)
            refine WpC.ret ?_
            try simp only [blockQ, seqQ]
            refine retD_i (by simp -implicitDefEqProofs [hLn, hw0, p0, dgs_zero, hz0, d34, hsg1, hsg2, dgr0, hq0, c133, d135, hw7, hw8, c142] <;> rfl) (by simp -implicitDefEqProofs [hLn, hw0, p0, dgs_zero, hz0, d34, hsg1, hsg2, dgr0, hq0, c133, d135, hw7, hw8, c142] <;> rfl) ?_
            have h10 := hyes
            simp [c133] at h10
            simp [h10, c133, c142']
      · have c133' := c133; first | simp only [dT, dF] at c133' | try simp at c133'
        have hyes : q + (if mo = true then 1 else 0) ≤ 9223372036854775807 := by rw [c133, if_neg (by decide)]; omega
        have hw8 : IntKind.i64.wrap (-(q : Int)) = -(q : Int) := wrapI (by omega) (by omega)
        refine WpC.skip ?_
        refine WpC.seq ?_
        refine WpC.seq (WpC.ops tabOk (r := []) (by simp -implicitDefEqProofs [hLn, hw0, p0, dgs_zero, hz0, d34, hsg1, hsg2, dgr0, hq0, c133, hw8] <;> rfl) rfl ?_)
        refine WpC.condR (by simp -implicitDefEqProofs [hLn, hw0, p0, dgs_zero, hz0, d34, hsg1, hsg2, dgr0, hq0, c133, hw8] <;> rfl) (by rfl) (fun c142 => ?_) (fun c142 => ?_)
        · have c142' := c142; first | simp only [dT, dF] at c142' | try simp at c142'
          refine WpC.ops tabOk (r := []) (by simp -implicitDefEqProofs [hLn, hw0, p0, dgs_zero, hz0, d34, hsg1, hsg2, dgr0, hq0, c133, hw8, c142] <;> rfl) rfl ?_
          refine WpC.seq (WpC.ops tabOk (r := []) (by simp -implicitDefEqProofs [hLn, hw0, p0, dgs_zero, hz0, d34, hsg1, hsg2, dgr0, hq0, c133, hw8, c142] <;> rfl) rfl ?_)
          refine WpC.ret ?_
          try simp only [blockQ, seqQ]
          refine retD_i (by simp -implicitDefEqProofs [hLn, hw0, p0, dgs_zero, hz0, d34, hsg1, hsg2, dgr0, hq0, c133, hw8, c142] <;> rfl) (by simp -implicitDefEqProofs [hLn, hw0, p0, dgs_zero, hz0, d34, hsg1, hsg2, dgr0, hq0, c133, hw8, c142] <;> rfl) ?_
          have h10 := hyes
          simp [c133] at h10
          simp [h10, c133, c142']
        · have c142' := c142; first | simp only [dT, dF] at c142' | try simp at c142'
          refine WpC.skip ?_
          refine WpC.seq (WpC.ops tabOk (r := []) (by simp -implicitDefEqProofs [hLn, hw0, p0, dgs_zero, hz0, d34, hsg1, hsg2, dgr0, hq0, c133, hw8, c142] <;> rfl) rfl ?_)
          refine WpC.ret ?_
          try simp only [blockQ, seqQ]
          refine retD_i (by simp -implicitDefEqProofs [hLn, hw0, p0, dgs_zero, hz0, d34, hsg1, hsg2, dgr0, hq0, c133, hw8, c142] <;> rfl) (by simp -implicitDefEqProofs [hLn, hw0, p0, dgs_zero, hz0, d34, hsg1, hsg2, dgr0, hq0, c133, hw8, c142] <;> rfl) ?_
          have h10 := hyes
          simp [c133] at h10
          simp [h10, c133, c142']
end Go.Proofs.Ytaobnhenjldjeaa.Pay
/- Variables that are written no more are lent to a closure for good. No statement of the seed is proved here. -/
namespace Go.Proofs.Ytaobnhenjldjeaa.Pay
open Go Go.RowKit
set_option linter.unusedVariables false
set_option linter.unusedSimpArgs false
set_option linter.unusedSectionVars false

/-- Only the objects of K (b), or only the others. -/
def maskO (K : List Nat) (b : Bool) : Nat → List Ob → List Ob
  | _, [] => []
  | i, o :: r => (if decide (i ∈ K) = b then o else .gone) :: maskO K b (i + 1) r
theorem maskO_get {K : List Nat} {b : Bool} : ∀ {i : Nat} {S : List Ob} {j : Nat}, (maskO K b i S)[j]? = (S[j]?).map fun o => if decide (i + j ∈ K) = b then o else .gone
  | i, [], j => by simp [maskO]
  | i, o :: r, 0 => by simp [maskO]
  | i, o :: r, j + 1 => by
    simp only [maskO, List.getElem?_cons_succ]
    rw [maskO_get, show i + 1 + j = i + (j + 1) from by omega]
theorem maskO_len {K : List Nat} {b : Bool} : ∀ {i : Nat} {S : List Ob}, (maskO K b i S).length = S.length
  | _, [] => rfl
  | i, o :: r => by simp [maskO, maskO_len]
section
variable {w : World} {I : Nat → Prop} {L : List Lay} {s : St} {a : Act}
theorem own_gone (l : Lay) : own .gone l = [] := by cases l <;> rfl
theorem mask_own {K : List Nat} {b : Bool} {S : List Ob} {x : Nat} (h : x ∈ owns (maskO K b 0 S) L) : ∃ (j : Nat) (o : Ob) (l : Lay), S[j]? = some o ∧ L[j]? = some l ∧ x ∈ own o l ∧ decide (j ∈ K) = b := by
  obtain ⟨j, c, l, h1, h2, h3⟩ := owns_of_mem h
  rw [maskO_get, Nat.zero_add, Option.map_eq_some_iff] at h1
  obtain ⟨o, ho, rfl⟩ := h1
  by_cases hb : decide (j ∈ K) = b
  · rw [if_pos hb] at h3; exact ⟨j, o, l, ho, h2, h3, hb⟩
  · rw [if_neg hb, own_gone] at h3; simp at h3
theorem mask_nodup (hs : SR w I L s a) (K : List Nat) (b : Bool) : (owns (maskO K b 0 s.S) L).Nodup := by
  refine owns_nodup fun j j' c c' l l' hne h1 h2 h3 h4 x hx hx' => ?_
  rw [maskO_get, Nat.zero_add, Option.map_eq_some_iff] at h1 h3
  obtain ⟨o, ho, rfl⟩ := h1
  obtain ⟨o', ho', rfl⟩ := h3
  by_cases hb : decide (j ∈ K) = b
  · rw [if_pos hb] at hx
    by_cases hb' : decide (j' ∈ K) = b
    · rw [if_pos hb'] at hx'
      exact owns_apart hs.nodup ho h2 ho' h4 hne x hx hx'
    · rw [if_neg hb', own_gone] at hx'; simp at hx'
  · rw [if_neg hb, own_gone] at hx; simp at hx
/-- The objects of K are written no more; slots that lead there are taken for what they show. -/
theorem Gh.frzO (K : List Nat) (ups : List (Nat × FV)) (hu : ∀ p ∈ ups, ∃ x, get s.env p.1 = some x ∧ viewF true (maskO K true 0 s.S) x = some p.2) : Gh s { s with env := ups ++ s.env, S := maskO K false 0 s.S } := fun w I L a hs => by
  have hs1 : SR w I L { s with S := maskO K true 0 s.S } a := by
    refine ⟨hs.env, hs.nt, by show L.length = (maskO K true 0 s.S).length; rw [maskO_len]; exact hs.len, fun i ob l h1 h2 => ?_, mask_nodup hs K true, fun x hx => ?_, hs.imm, hs.defers⟩
    · have h1' : (maskO K true 0 s.S)[i]? = some ob := h1
      rw [maskO_get, Option.map_eq_some_iff] at h1'
      obtain ⟨o, ho, rfl⟩ := h1'
      split
      · exact hs.obs i o l ho h2
      · trivial
    · obtain ⟨j, o, l, h1, h2, h3, _⟩ := mask_own hx
      exact hs.sep x (owns_mem h1 h2 x h3)
  have hI : ∀ b, I b → lentI I (maskO K true 0 s.S) L b := fun b hb => .inl hb
  refine ⟨lentI I (maskO K true 0 s.S) L, L, ⟨fun t x hx => ?_, hs.nt, ?_, fun i ob l h1 h2 => ?_, mask_nodup hs K false, fun x hx => ?_, fun b hb => ?_, hs.defers⟩, ⟨⟨rfl, rfl, rfl, Nat.le_refl _, fun _ _ _ => rfl, hI, fun b hb => ?_, fun b hb => .inl ?_⟩, rfl, fun _ _ => rfl⟩⟩
  · have key : ∀ (us : List (Nat × FV)), (∀ p ∈ us, ∃ x, get s.env p.1 = some x ∧ viewF true (maskO K true 0 s.S) x = some p.2) → get (us ++ s.env) t = some x → VRel w (lentI I (maskO K true 0 s.S) L) L x (a.tmps.getD t undef) := by
      intro us
      induction us with
      | nil => intro _ h; exact VRel.mono (fun _ _ => rfl) hI (fun _ _ h => h) _ _ (hs.env t x h)
      | cons p us ih =>
        intro hp h
        obtain ⟨k, y⟩ := p
        simp only [List.cons_append, get] at h
        by_cases hk : k = t
        · rw [if_pos hk] at h; cases h; subst hk
          obtain ⟨z, hz, hv⟩ := hp _ List.mem_cons_self
          exact viewL_ok hs1 L (hs.env _ z hz) hv
        · rw [if_neg hk] at h
          exact ih (fun q hq => hp q (List.mem_cons_of_mem _ hq)) h
    exact key ups hu hx
  · have := hs.len
    simpa [maskO_len] using this
  · have h1' : (maskO K false 0 s.S)[i]? = some ob := h1
    rw [maskO_get, Option.map_eq_some_iff] at h1'
    obtain ⟨o, ho, rfl⟩ := h1'
    split
    · exact ORel.mono (fun _ _ => rfl) hI (fun _ _ h => h) (fun _ _ => rfl) (hs.obs i o l ho h2)
    · trivial
  · obtain ⟨j, o, l, h1, h2, h3, hj⟩ := mask_own hx
    have hsx := hs.sep x (owns_mem h1 h2 x h3)
    refine ⟨fun q => ?_, hsx.2⟩
    rcases q with q | q
    · exact hsx.1 q
    · obtain ⟨j', o', l', g1, g2, g3, hj'⟩ := mask_own q
      have hne : j ≠ j' := fun e => by rw [e, hj'] at hj; cases hj
      exact owns_apart hs.nodup h1 h2 g1 g2 hne x h3 g3
  · rcases hb with hb | hb
    · exact hs.imm b hb
    · obtain ⟨j, o, l, h1, h2, h3, _⟩ := mask_own hb
      exact (hs.sep b (owns_mem h1 h2 b h3)).2
  · rcases hb with hb | hb
    · exact .inl hb
    · obtain ⟨j, o, l, h1, h2, h3, _⟩ := mask_own hb
      exact .inr (.inl (owns_mem h1 h2 b h3))
  · obtain ⟨j, o, l, h1, h2, h3, _⟩ := mask_own hb
    exact owns_mem h1 h2 b h3
end
end Go.Proofs.Ytaobnhenjldjeaa.Pay
/- What stands where in a sorted row; a clone of a row of one's own. No statement of the seed is proved here. -/
namespace Go.Proofs.Ytaobnhenjldjeaa.Pay
open Go Go.RowKit
set_option linter.unusedVariables false
set_option linter.unusedSimpArgs false
set_option linter.unusedSectionVars false

theorem nodup_len : ∀ (m : Nat) (l : List Nat), l.Nodup → (∀ x ∈ l, x < m) → l.length ≤ m
  | 0, l, _, h => by
    cases l with
    | nil => simp
    | cons x l => have := h x (by simp); omega
  | m + 1, l, hn, h => by
    by_cases hm : m ∈ l
    · have h1 := nodup_len m (l.erase m) (hn.erase m) fun x hx => by
        have := (List.Nodup.mem_erase_iff hn).1 hx
        have := h x this.2
        omega
      rw [List.length_erase_of_mem hm] at h1
      omega
    · have h1 := nodup_len m l hn fun x hx => by
        have := h x hx
        have : x ≠ m := fun e => hm (e ▸ hx)
        omega
      omega
/-- Unlike places below n are all places below n. -/
theorem onto {n : Nat} {f : Nat → Nat} (h1 : ∀ i, i < n → f i < n) (h2 : ∀ i j, i < n → j < n → f i = f j → i = j) : ((List.range n).map f).Perm (List.range n) := by
  have hnd : ((List.range n).map f).Nodup := by
    rw [List.nodup_iff_pairwise_ne, List.pairwise_map]
    refine (List.nodup_iff_pairwise_ne.1 List.nodup_range).imp_of_mem fun {a b} ha hb hab he => hab (h2 a b (by simpa using ha) (by simpa using hb) he)
  have hlt : ∀ x ∈ (List.range n).map f, x < n := fun x hx => by
    obtain ⟨i, hi, rfl⟩ := List.mem_map.1 hx
    exact h1 i (by simpa using hi)
  rw [List.perm_ext_iff_of_nodup hnd List.nodup_range]
  intro a
  constructor
  · intro ha; simpa using hlt a ha
  · intro ha
    have han : a < n := by simpa using ha
    apply Classical.byContradiction
    intro hno
    have := nodup_len n (a :: (List.range n).map f) (List.nodup_cons.2 ⟨hno, hnd⟩) fun x hx => by
      rcases List.mem_cons.1 hx with rfl | hx
      · exact han
      · exact hlt x hx
    simp at this
    omega
theorem countP_lt (n p : Nat) (h : p ≤ n) : (List.range n).countP (fun q => decide (q < p)) = p := by
  induction n generalizing p with
  | zero => simp; omega
  | succ n ih =>
    rw [List.range_succ, List.countP_append]
    by_cases hp : p ≤ n
    · rw [ih p hp]
      simp; omega
    · have : p = n + 1 := by omega
      subst this
      have : (List.range n).countP (fun q => decide (q < n + 1)) = (List.range n).length := by
        rw [List.countP_eq_length]
        intro a ha
        have := List.mem_range.1 ha
        simp; omega
      rw [this]; simp
theorem countP_one (p : Nat) : ∀ l, (List.range l).countP (fun q => q == p) = if p < l then 1 else 0
  | 0 => by simp
  | l + 1 => by
    rw [List.range_succ, List.countP_append, countP_one p l]
    by_cases h1 : p < l
    · have : ¬ l = p := by omega
      rw [if_pos h1, if_pos (by omega)]; simp [this]
    · by_cases h2 : l = p
      · subst h2; simp
      · rw [if_neg h1, if_neg (by omega)]; simp [h2]
section
variable {c : Int → Int → Int} {n : Nat} {h : Nat → Int}
/-- How many are ahead of one. -/
def ahead (c : Int → Int → Int) (n : Nat) (i : Int) : Nat := (List.range n).countP fun (j : Nat) => decide (c (j : Int) i < 0)
theorem rank (hc : Cmp c (okS n)) (m : Mv 0 n (fun i => (i : Int)) h) (s : Srtd c h 0 n) : (∀ p, p < n → 0 ≤ h p ∧ h p < n) ∧ (∀ p q, p < n → q < n → h p = h q → p = q) ∧ (∀ p, p < n → ahead c n (h p) = p) ∧ ∀ i, i < n → ∃ p, p < n ∧ h p = (i : Int) := by
  have hin : ∀ p, p < n → 0 ≤ h p ∧ h p < n := fun p hp => by
    obtain ⟨j, _, j2, e⟩ := m.src p (by omega) hp
    rw [e]; omega
  have hinj : ∀ p q, p < n → q < n → h p = h q → p = q := fun p q hp hq e => m.inj (fun i j _ _ _ _ e => by omega) p q (by omega) hp (by omega) hq e
  have hperm := onto (n := n) (f := fun p => (h p).toNat) (fun i hi => by have := hin i hi; omega) (fun i j hi hj e => hinj i j hi hj (by have := hin i hi; have := hin j hj; omega))
  have hlt : ∀ p q, p < n → q < n → (c (h p) (h q) < 0 ↔ p < q) := fun p q hp hq => by
    have op : okS n (h p) := hin p hp
    have oq : okS n (h q) := hin q hq
    constructor
    · intro hl
      rcases Nat.lt_trichotomy p q with h1 | h1 | h1
      · exact h1
      · subst h1; exact absurd hl (hc.asym _ _ op oq hl)
      · exact absurd hl (s q p (by omega) h1 hp)
    · intro hpq
      rcases hc.tot (h p) (h q) op oq (fun e => by have := hinj p q hp hq e; omega) with h1 | h1
      · exact h1
      · exact absurd h1 (s p q (by omega) hpq hq)
  refine ⟨hin, hinj, fun p hp => ?_, fun i hi => ?_⟩
  · unfold ahead
    rw [← hperm.countP_eq, List.countP_map]
    rw [show (List.range n).countP ((fun j : Nat => decide (c (j : Int) (h p) < 0)) ∘ fun q => (h q).toNat) = (List.range n).countP fun q => decide (q < p) from List.countP_congr fun q hq => by
      have hqn : q < n := List.mem_range.1 hq
      have e : ((h q).toNat : Int) = h q := by have := hin q hqn; omega
      simp only [Function.comp, e, decide_eq_true_eq]
      exact hlt q p hqn hp]
    exact countP_lt n p (by omega)
  · have := (hperm.mem_iff (a := i)).2 (List.mem_range.2 hi)
    obtain ⟨p, hp, e⟩ := List.mem_map.1 this
    have hpn : p < n := List.mem_range.1 hp
    exact ⟨p, hpn, by have := hin p hpn; omega⟩
/-- Those ahead of place l have one more. -/
def incF (pf : Nat → Int) (h : Nat → Int) (k : Nat) : Nat → Int := fun i => pf i + ((List.range k).countP fun p => decide (h p = (i : Int)) : Nat)
theorem incF_step (pf : Nat → Int) {h : Nat → Int} {k : Nat} (hk : 0 ≤ h k) : upd (incF pf h k) (h k).toNat (incF pf h k (h k).toNat + 1) = incF pf h (k + 1) := by
  funext i
  unfold upd incF
  rw [List.range_succ, List.countP_append]
  by_cases e : i = (h k).toNat
  · rw [if_pos e, ← e]
    have : h k = (i : Int) := by omega
    simp [this]; omega
  · rw [if_neg e]
    have : ¬ h k = (i : Int) := by omega
    simp [this]
theorem incF_end (pf : Nat → Int) (hc : Cmp c (okS n)) (m : Mv 0 n (fun i => (i : Int)) h) (s : Srtd c h 0 n) {l : Nat} (hl : l ≤ n) {i : Nat} (hi : i < n) : incF pf h l i = pf i + if ahead c n i < l then 1 else 0 := by
  obtain ⟨hin, hinj, hr, hs⟩ := rank hc m s
  obtain ⟨p, hp, hpi⟩ := hs i hi
  unfold incF
  rw [← hpi, hr p hp]
  congr 1
  have : (List.range l).countP (fun q => decide (h q = h p)) = (List.range l).countP fun q => q == p := List.countP_congr fun q hq => by
    have hql : q < l := List.mem_range.1 hq
    simp only [decide_eq_true_eq, beq_iff_eq]
    exact ⟨fun e => hinj q p (by omega) hp e, fun e => by rw [e]⟩
  rw [this, countP_one]
  split <;> rfl
end

section
variable {P : Program} {T : Nat → Option TI} {s s' : St} {all : Array Oper} {o : Oper} {rest : List Oper} {Q : Exit → St → Prop}
/-- A row of one's own against nil. -/
theorem WpO.nilSl (hT : TabOk P T) {t ty : TypeId} {k e id n e' : Nat} {xs : List D} {x : Operand} {i : TI} (hw : wantS all s o = some true) (ho : o.op = .binOp .eql t x (.const (.slice none 0 0)) ty) (hi : T t = some i) (hk : i.kind = .slice e) (hx : evX s x = some (.sl id n)) (hS : s.S[id]? = some (.arr e' k xs)) (hn : n ≤ xs.length)
    (h : ∀ b : Bool, (b = true → xs.take n = []) → ∃ s1, setS s o.dst (.d (.bool b)) = some s1 ∧ WpO P all rest s1 Q) : WpO P all (o :: rest) s Q := fun w I L a hs => by
  have ht := (hT _ _ hi).kind
  rw [hk] at ht
  simp only [TKOk] at ht
  have hv := arr_list hs hS hn (hs.evX hx)
  simp only [DRel] at hv
  obtain ⟨base, c, hv, hle, hd⟩ := hv
  obtain ⟨s1, hset, hk'⟩ := h base.isNone (fun hb => by
    rcases hd with hd | ⟨b, off, vs, hd, _⟩
    · exact hd
    · subst hd; cases hb)
  unfold wpList
  rw [if_pos (hs.want hw)]
  refine .inl ?_
  have hrun : (execOp a.eval o).run P w = .ok (.value (.bool base.isNone)) w := by
    unfold execOp
    have hc : a.eval (Operand.const (.slice none 0 0)) = .slice none 0 0 := rfl
    simp only [ho, hv, hc, eqGuard_at_slice, Sem.run_bind, Sem.run_pure, Result.andThen_ok, run_slice_nil ht]
  unfold Oper.wp
  rw [hrun]
  obtain ⟨e1, e2, e3⟩ := hs.put (v := .bool base.isNone) (by simp only [VRel, DRel]) hset
  have := hk' w I L _ e1
  refine wpList_mono (fun e a' w' p => p.from ⟨?_, e3, fun _ _ => rfl⟩) _ _ _ this
  rw [e2]; exact Evo.refl _ _ _
end
theorem cloneOwn_ok (xs : List D) (n : Nat) (hn : xs.length = n) (hl : n ≤ 1000000000) : WpF Try.prog 32 [.sl 0 n] [.arr 3 1 xs] fun r S => r = .sl 1 n ∧ S = [.arr 3 1 xs, .arr 3 1 xs] := by
  have hsm : n ≤ 8589934592 := by omega
  refine WpF.enter tabOk Try.func32 rfl (by show 1 ≤ 8; decide) ?_
  simp only [Try.f32]
  refine WpC.seq (WpC.ops tabOk (r := []) (by simp -implicitDefEqProofs [hn, hsm] <;> rfl) rfl ?_)
  refine WpC.seq ?_
  refine WpC.seq ?_
  refine WpC.region ?_
  refine WpO.run tabOk 1 (by simp <;> first | exact ⟨rfl, rfl⟩ | rfl) ?_
  refine WpO.nilSl (id := 0) (n := n) (k := 1) (xs := xs) (e' := 3) tabOk (by simp) rfl (by simp; rfl) rfl (by simp) (by simp) (by omega) fun b hb => ⟨_, by simp; rfl, WpO.nil ?_⟩
  refine WpC.condR (by simp -implicitDefEqProofs [hn, hsm] <;> rfl) (by rfl) (fun c4 => ?_) (fun c4 => ?_)
  · have c4' := c4; first | simp only [dT, dF] at c4' | try simp at c4'
    refine WpC.seq (WpC.ops tabOk (r := []) (by simp -implicitDefEqProofs [hn, hsm, c4] <;> rfl) rfl ?_)
    have h0 := hb c4
    rw [List.take_of_length_le (by omega)] at h0
    subst h0
    simp at hn
    subst hn
    refine WpC.gh (Gh.nilArr 3 1 (t := 2) (by simp) (by simp)) ?_
    refine WpC.ret ?_
    simp
  · have c4' := c4; first | simp only [dT, dF] at c4' | try simp at c4'
    refine WpC.skip ?_
    refine WpC.seq (WpC.ops tabOk (r := []) (by simp -implicitDefEqProofs [hn, hsm, c4] <;> rfl) rfl ?_)
    refine WpC.gh (Gh.pick [2] [0, 2] (by simp; rfl) (env' := [(2, .sl 1 n)]) (by simp) (by simp) (by simp) (by simp; rfl) (S' := [.arr 3 1 xs, .arr 3 1 xs]) (by simp [hn]) (by simp)) (WpC.ret ?_)
    simp
end Go.Proofs.Ytaobnhenjldjeaa.Pay
/- split.Split. No statement of the seed is proved here. -/
namespace Go.Proofs.Ytaobnhenjldjeaa.Pay
open Go Go.RowKit
set_option linter.unusedVariables false
set_option linter.unusedSimpArgs false
set_option linter.unusedSectionVars false

def sumN (f : Nat → Nat) (k : Nat) : Nat := ((List.range k).map f).sum
theorem sumN_step (f : Nat → Nat) (k : Nat) : sumN f (k + 1) = sumN f k + f k := by
  unfold sumN
  rw [List.range_succ]; simp
theorem sumN_le {f g : Nat → Nat} {n : Nat} (h : ∀ i, i < n → f i ≤ g i) : sumN f n ≤ sumN g n := by
  induction n with
  | zero => simp [sumN]
  | succ n ih =>
    rw [sumN_step, sumN_step]
    have := ih fun i hi => h i (by omega)
    have := h n (by omega)
    omega
theorem sumN_mono (f : Nat → Nat) {k n : Nat} (h : k ≤ n) : sumN f k ≤ sumN f n := by
  induction n with
  | zero => have : k = 0 := by omega
            subst this; exact Nat.le_refl _
  | succ n ih =>
    by_cases hk : k = n + 1
    · subst hk; exact Nat.le_refl _
    · rw [sumN_step]
      have := ih (by omega)
      omega
theorem sumN_div (t s : Nat) (w : Nat → Nat) : ∀ k, sumN (fun i => t * w i / s) k * s + sumN (fun i => t * w i % s) k = t * sumN w k
  | 0 => by simp [sumN]
  | k + 1 => by
    have ih := sumN_div t s w k
    rw [sumN_step, sumN_step, sumN_step, Nat.mul_add, Nat.add_mul]
    have := Nat.div_add_mod' (t * w k) s
    omega
theorem sumN_const (c : Nat) : ∀ k, sumN (fun _ => c) k = k * c
  | 0 => by simp [sumN]
  | k + 1 => by rw [sumN_step, sumN_const c k, Nat.add_mul]; omega
/-- What is left of the total is less than how many parts there are. -/
theorem left_le {t s n : Nat} {w : Nat → Nat} (hs : 0 < s) (hw : sumN w n = s) : sumN (fun i => t * w i / s) n ≤ t ∧ t - sumN (fun i => t * w i / s) n ≤ n := by
  have h := sumN_div t s w n
  rw [hw] at h
  have h1 : sumN (fun i => t * w i % s) n ≤ n * s := by
    rw [← sumN_const s n]
    exact sumN_le fun i hi => Nat.le_of_lt (Nat.mod_lt _ hs)
  generalize sumN (fun i => t * w i % s) n = r at h h1
  generalize sumN (fun i => t * w i / s) n = p at h
  have hp : p * s ≤ t * s := by omega
  have hpt : p ≤ t := Nat.le_of_mul_le_mul_right hp hs
  refine ⟨hpt, ?_⟩
  have : (t - p) * s ≤ n * s := by rw [Nat.sub_mul]; omega
  exact Nat.le_of_mul_le_mul_right this hs

def spW (ws : List Int) (i : Nat) : Int := (ws[i]?).getD 0
def spN (T : Int) (ws : List Int) (i : Nat) : Nat := T.toNat * (spW ws i).toNat / ws.sum.toNat
def spP (T : Int) (ws : List Int) (i : Nat) : Int := (spN T ws i : Nat)
def spL (T : Int) (ws : List Int) : Nat := T.toNat - sumN (spN T ws) ws.length
def splitF (T : Int) (ws : List Int) (i : Nat) : Int := spP T ws i + if ahead (cS T ws.sum (spW ws) (spP T ws)) ws.length i < spL T ws then 1 else 0
def spE (T : Int) (ws : List Int) : Int := if 60 < ws.length then 9 else if T < 0 ∨ (ws.any fun w => decide (w < 0)) = true then 1 else if sumB ws = false then 3 else if ws.sum = 0 then 4 else 0
def spR (T : Int) (ws : List Int) : List D := if spE T ws = 0 then rowF (splitF T ws) ws.length else []
theorem map_spW (ws : List Int) : ws.map dI = rowF (spW ws) ws.length := rowF_of ws
theorem sum_spW : ∀ {ws : List Int}, (∀ x ∈ ws, 0 ≤ x) → sumN (fun i => (spW ws i).toNat) ws.length = ws.sum.toNat := by
  intro ws h
  have e : (List.range ws.length).map (fun i => (spW ws i).toNat) = ws.map Int.toNat := by
    apply List.ext_getElem
    · simp
    · intro i h1 h2
      simp only [List.length_map, List.length_range] at h1
      simp [spW, List.getElem?_eq_getElem h1]
  unfold sumN
  rw [e]
  clear e
  induction ws with
  | nil => rfl
  | cons x l ih =>
    have h1 := h x (by simp)
    have h2 := sum_nonneg (l := l) fun y hy => h y (by simp [hy])
    rw [List.map_cons, List.sum_cons, List.sum_cons, ih fun y hy => h y (by simp [hy])]
    omega
def pk (f : Nat → Int) (k : Nat) : Nat → Int := fun i => if i < k then f i else 0
theorem pk_step (f : Nat → Int) (k : Nat) : upd (pk f k) k (f k) = pk f (k + 1) := by
  funext i
  unfold upd pk
  by_cases h : i = k
  · subst h; rw [if_pos rfl, if_pos (by omega)]
  · rw [if_neg h]
    by_cases h2 : i < k
    · rw [if_pos h2, if_pos (by omega)]
    · rw [if_neg h2, if_neg (by omega)]
theorem pk_all (f : Nat → Int) (n : Nat) : rowF (pk f n) n = rowF f n := rowF_ext fun i hi => if_pos hi
theorem pk_zero (f : Nat → Int) (n : Nat) : List.replicate n (D.int .i64 0) = rowF (pk f 0) n := by
  apply List.ext_getElem?
  intro i
  by_cases h : i < n
  · rw [rowF_get h, List.getElem?_replicate, if_pos h]
    simp [pk]
  · rw [List.getElem?_eq_none (by simp; omega), List.getElem?_eq_none (by simp; omega)]

set_option maxHeartbeats 40000000 in
theorem split_ok (T : Int) (ws : List Int) (hT : in64 T) (hws : ∀ x ∈ ws, in64 x) (hlen : ws.length ≤ 1000000) :
    Gives Try.prog 19 [.d (dI T), .d (.list 1 (ws.map dI))] (.tup [.d (.list 1 (spR T ws)), .d (dI (spE T ws))]) := by
  obtain ⟨n, hn⟩ : ∃ n, ws.length = n := ⟨_, rfl⟩
  have hco := containsI_ok ws (by omega)
  obtain ⟨nb, hnb⟩ : ∃ b, (ws.any fun w => decide (w < 0)) = b := ⟨_, rfl⟩
  rw [hnb] at hco
  refine Gives.enter tabOk Try.func19 rfl (by show 2 ≤ 95; decide) ?_
  simp only [Try.f19]
  refine WpC.seq (WpC.ops tabOk (r := []) (by simp -implicitDefEqProofs [hn] <;> rfl) rfl ?_)
  refine WpC.seq ?_
  refine WpC.block ?_
  refine WpC.seq (WpC.ops tabOk (r := []) (by simp -implicitDefEqProofs [hn] <;> rfl) rfl ?_)
  refine WpC.condD ((60 : Int) < n) (by simp -implicitDefEqProofs [hn]) (fun d16 => ?_) (fun d16 => ?_)
  · refine WpC.seq (WpC.ops tabOk (r := []) (by simp -implicitDefEqProofs [hn, d16] <;> rfl) rfl ?_)
    refine WpC.ret ?_
    try simp only [blockQ, seqQ]
    refine retD_i (by simp -implicitDefEqProofs [hn, d16] <;> rfl) (by simp -implicitDefEqProofs [hn, d16] <;> rfl) ?_
    have e : spE T ws = 9 := by unfold spE; rw [if_pos (by omega)]
    simp [e, spR]
  · have hn60 : n ≤ 60 := by omega
    have hn61 : n ≤ 8589934592 := by omega
    have hn62 : (n : Int) ≤ 8589934592 := by omega
    refine WpC.seq ?_
    refine WpC.val 20 (.d (.bool (decide (T < 0) || nb))) ?_ ?_
    · refine WpC.region ?_
      refine WpO.run tabOk 3 (by simp -implicitDefEqProofs [hn, d16, hn61, hn62] <;> first | exact ⟨rfl, rfl⟩ | rfl) ?_
      refine WpO.splitB 23 (by simp -implicitDefEqProofs [hn, d16, hn61, hn62] <;> rfl) (by rfl) (fun g23 => ?_) (fun g23 => ?_)
      · try (exfalso; revert g23; simp; done)
        all_goals
          have g23' := g23; first | simp only [dT, dF] at g23' | try simp at g23'
          refine WpO.run tabOk 4 (by simp -implicitDefEqProofs [hn, d16, hn61, hn62, g23] <;> first | exact ⟨rfl, rfl⟩ | rfl) ?_
          refine WpO.nil ?_
          refine ⟨rfl, Gh.only 20 8 ?_ (by first | rfl | simp -implicitDefEqProofs [hn, d16, hn61, hn62, g23]) (by rfl)⟩
          simp -implicitDefEqProofs [hn, d16, hn61, hn62, g23, g23']
      · try (exfalso; revert g23; simp; done)
        all_goals
          have g23' := g23; first | simp only [dT, dF] at g23' | try simp at g23'
          refine WpO.run tabOk 1 (by simp -implicitDefEqProofs [hn, d16, hn61, hn62, g23] <;> first | exact ⟨rfl, rfl⟩ | rfl) ?_
          refine WpO.data (by simp) rfl (by simp -implicitDefEqProofs [hn, d16, hn61, hn62, g23] <;> rfl) (by simp -implicitDefEqProofs [hn, d16, hn61, hn62, g23] <;> rfl) (by simp -implicitDefEqProofs [hn, d16, hn61, hn62, g23] <;> rfl) call_28 (by simp) (hco) (by rfl) (by simp -implicitDefEqProofs [hn, d16, hn61, hn62, g23] <;> rfl) ?_
          refine WpO.run tabOk 2 (by simp -implicitDefEqProofs [hn, d16, hn61, hn62, g23] <;> first | exact ⟨rfl, rfl⟩ | rfl) ?_
          refine WpO.nil ?_
          refine ⟨rfl, Gh.only 20 8 ?_ (by first | rfl | simp -implicitDefEqProofs [hn, d16, hn61, hn62, g23]) (by rfl)⟩
          simp -implicitDefEqProofs [hn, d16, hn61, hn62, g23, g23']
    refine WpC.condD (T < 0 ∨ nb = true) (by simp -implicitDefEqProofs [hn, d16, hn61, hn62]) (fun d20 => ?_) (fun d20 => ?_)
    · refine WpC.seq (WpC.ops tabOk (r := []) (by simp -implicitDefEqProofs [hn, d16, hn61, hn62, d20] <;> rfl) rfl ?_)
      refine WpC.ret ?_
      try simp only [blockQ, seqQ]
      refine retD_i (by simp -implicitDefEqProofs [hn, d16, hn61, hn62, d20] <;> rfl) (by simp -implicitDefEqProofs [hn, d16, hn61, hn62, d20] <;> rfl) ?_
      have e : spE T ws = 1 := by unfold spE; rw [if_neg (by omega), hnb, if_pos d20]
      simp [e, spR]
    · have hT0 : 0 ≤ T := by omega
      have hw0 : ∀ x ∈ ws, 0 ≤ x := fun x hx => by
        have hf : nb = false := by cases nb <;> simp_all
        rw [hf, List.any_eq_false] at hnb
        have := hnb x hx
        simp at this; omega
      have hsm := sumM_ok ws (fun x hx => ⟨hw0 x hx, (hws x hx).2⟩) (by omega)
      obtain ⟨sb, hsb⟩ : ∃ b, sumB ws = b := ⟨_, rfl⟩
      rw [hsb] at hsm
      refine WpC.skip ?_
      refine WpC.seq ?_
      refine WpC.region ?_
      refine WpO.run tabOk 1 (by simp -implicitDefEqProofs [hn, d16, hn61, hn62, d20] <;> first | exact ⟨rfl, rfl⟩ | rfl) ?_
      refine WpO.data (by simp) rfl (by simp -implicitDefEqProofs [hn, d16, hn61, hn62, d20] <;> rfl) (by simp -implicitDefEqProofs [hn, d16, hn61, hn62, d20] <;> rfl) (by simp -implicitDefEqProofs [hn, d16, hn61, hn62, d20] <;> rfl) call_30 (by simp) (hsm) (by rfl) (by simp -implicitDefEqProofs [hn, d16, hn61, hn62, d20] <;> rfl) ?_
      refine WpO.run tabOk 6 (by simp -implicitDefEqProofs [hn, d16, hn61, hn62, d20] <;> first | exact ⟨rfl, rfl⟩ | rfl) ?_
      refine WpO.nil ?_
      refine WpC.seq ?_
      refine WpC.block ?_
      refine WpC.seq (WpC.ops tabOk (r := []) (by simp -implicitDefEqProofs [hn, d16, hn61, hn62, d20] <;> rfl) rfl ?_)
      refine WpC.condD (sb = false) (by simp -implicitDefEqProofs [hn, d16, hn61, hn62, d20]) (fun d32 => ?_) (fun d32 => ?_)
      · have hsf : sb = false := d32
        refine WpC.seq (WpC.ops tabOk (r := []) (by simp -implicitDefEqProofs [hn, d16, hn61, hn62, d20, d32, hsf] <;> rfl) rfl ?_)
        refine WpC.ret ?_
        try simp only [blockQ, seqQ]
        refine retD_i (by simp -implicitDefEqProofs [hn, d16, hn61, hn62, d20, d32, hsf] <;> rfl) (by simp -implicitDefEqProofs [hn, d16, hn61, hn62, d20, d32, hsf] <;> rfl) ?_
        have e : spE T ws = 3 := by unfold spE; rw [if_neg (by omega), hnb, if_neg d20, hsb, if_pos hsf]
        simp [e, spR, hsf]
      · have hst : sb = true := by cases sb <;> simp_all
        subst hst
        refine WpC.seq (WpC.ops tabOk (r := []) (by simp -implicitDefEqProofs [hn, d16, hn61, hn62, d20, d32] <;> rfl) rfl ?_)
        refine WpC.condD (ws.sum = 0) (by simp -implicitDefEqProofs [hn, d16, hn61, hn62, d20, d32]) (fun d36 => ?_) (fun d36 => ?_)
        · refine WpC.seq (WpC.ops tabOk (r := []) (by simp -implicitDefEqProofs [hn, d16, hn61, hn62, d20, d32, d36] <;> rfl) rfl ?_)
          refine WpC.ret ?_
          try simp only [blockQ, seqQ]
          refine retD_i (by simp -implicitDefEqProofs [hn, d16, hn61, hn62, d20, d32, d36] <;> rfl) (by simp -implicitDefEqProofs [hn, d16, hn61, hn62, d20, d32, d36] <;> rfl) ?_
          have e : spE T ws = 4 := by unfold spE; rw [if_neg (by omega), hnb, if_neg d20, hsb, if_neg (by decide), if_pos d36]
          simp [e, spR]
        · have e0 : spE T ws = 0 := by unfold spE; rw [if_neg (by omega), hnb, if_neg d20, hsb, if_neg (by decide), if_neg d36]
          have hsum0 := sum_nonneg hw0
          have hsumM : ws.sum ≤ 9223372036854775807 := of_decide_eq_true hsb
          obtain ⟨t, ht⟩ : ∃ t : Nat, T = t := ⟨T.toNat, by omega⟩
          obtain ⟨s, hs⟩ : ∃ s : Nat, ws.sum = s := ⟨ws.sum.toNat, by omega⟩
          have hs0 : 0 < s := by omega
          obtain ⟨wf, hwf⟩ : ∃ wf, spW ws = wf := ⟨_, rfl⟩
          have hrow : ws.map dI = rowF wf n := by rw [map_spW, hn, hwf]
          have hwn : ∀ i, i < n → inN (wf i) := fun i hi => by
            have : wf i = ws[i]'(by omega) := by rw [← hwf]; unfold spW; rw [List.getElem?_eq_getElem (by omega)]; rfl
            rw [this]
            exact ⟨hw0 _ (List.getElem_mem _), (hws _ (List.getElem_mem _)).2⟩
          have hsumw : sumN (fun i => (wf i).toNat) n = s := by rw [← hwf, ← hn, sum_spW hw0, hs]; rfl
          obtain ⟨pn, hpn⟩ : ∃ pn : Nat → Nat, (fun i => t * (wf i).toNat / s) = pn := ⟨_, rfl⟩
          have hpne : spN T ws = pn := by
            funext i; rw [← hpn]; unfold spN; rw [hwf, ht, hs]; rfl
          obtain ⟨hl1, hl2⟩ := left_le (t := t) hs0 hsumw
          rw [hpn] at hl1 hl2
          have hpb : ∀ i, i < n → pn i ≤ t := fun i hi => by
            have h1 : pn i ≤ sumN pn (i + 1) := by rw [sumN_step]; omega
            have h2 := sumN_mono pn (show i + 1 ≤ n from hi)
            omega
          obtain ⟨pf, hpf⟩ : ∃ pf : Nat → Int, (fun i => ((pn i : Nat) : Int)) = pf := ⟨_, rfl⟩
          have hpfe : spP T ws = pf := by funext i; rw [← hpf]; unfold spP; rw [hpne]
          have hpi : ∀ i, pf i = pn i := fun i => by rw [← hpf]
          have hpin : ∀ i, i < n → inN (pf i) := fun i hi => by rw [hpi]; have := hpb i hi; unfold in64 at hT; exact ⟨by omega, by omega⟩
          obtain ⟨lft, hlft⟩ : ∃ l, t - sumN pn n = l := ⟨_, rfl⟩
          have hspL : spL T ws = lft := by unfold spL; rw [hpne, hn, ht]; exact hlft
          have hz1 : List.replicate n (D.int .i64 0) = rowF (pk pf 0) n := pk_zero pf n
          have hz2 : List.replicate n (D.int .i64 0) = rowF (pk (fun i => (i : Int)) 0) n := pk_zero _ n
          have hz3 : rowF (pk (fun i => (i : Int)) 0) n = rowF (pk pf 0) n := by rw [← hz1, ← hz2]
          have hz4 : sumN pn 0 = 0 := rfl
          have hcm := cS_cmp (t : Int) (s : Int) wf pf n
          have hTn : inN (t : Int) := by unfold in64 at hT; exact ⟨by omega, by omega⟩
          have hSn : inN (s : Int) := ⟨by omega, by omega⟩
          have hcc := fun x y hx hy => cS_ok (t : Int) (s : Int) wf pf n hTn hSn hwn hpin hn60 x y hx hy
          have hso := sortStable_ok (t : Int) (s : Int) (rowF wf n) (rowF pf n) hcm hcc (fun i => (i : Int)) n hn60 (fun i hi => by show (0 : Int) ≤ i ∧ (i : Int) < n; omega)
          subst ht
          refine WpC.skip ?_
          refine WpC.seq (WpC.ops tabOk (r := []) (by simp -implicitDefEqProofs [hn, d16, hn61, hn62, d20, d32, d36, hrow, hs, hz1, hz3, hz4] <;> rfl) rfl ?_)
          refine WpC.seq (WpC.ops tabOk (r := []) (by simp -implicitDefEqProofs [hn, d16, hn61, hn62, d20, d32, d36, hrow, hs, hz1, hz3, hz4] <;> rfl) rfl ?_)
          refine WpC.seq (WpC.ops tabOk (r := []) (by simp -implicitDefEqProofs [hn, d16, hn61, hn62, d20, d32, d36, hrow, hs, hz1, hz3, hz4] <;> rfl) rfl ?_)
          refine WpC.seq ?_
          refine WpC.seq (WpC.ops tabOk (r := []) (by simp -implicitDefEqProofs [hn, d16, hn61, hn62, d20, d32, d36, hrow, hs, hz1, hz3, hz4] <;> rfl) rfl ?_)
          refine WpC.block ?_
          refine WpC.loopK [2, 3, 6, 8, 9, 46, 47] [10, 48] (n) (() : Unit) (fun k _ => [(10, .d (dI ((t - sumN pn k : Nat) : Int))), (48, .d (.int .i64 k))]) (fun k _ => [.cells 3 [.d (dI t)], .cells 24 [.d (.list 1 (rowF wf n))], .cells 3 [.d (dI s)], .arr 3 1 (rowF (pk pf k) n), .arr 3 1 (rowF (pk (fun i => (i : Int)) k) n)]) (fun k _ => True) (by simp -implicitDefEqProofs [hn, d16, hn61, hn62, d20, d32, d36, hrow, hs, hz1, hz3, hz4] <;> rfl) (Gh.cut' [10, 48, 2, 3, 6, 8, 9, 46, 47] 5 (by simp -implicitDefEqProofs [hn, d16, hn61, hn62, d20, d32, d36, hrow, hs, hz1, hz3, hz4]) (by simp -implicitDefEqProofs [hn, d16, hn61, hn62, d20, d32, d36, hrow, hs, hz1, hz3, hz4]) rfl (by simp) (by simp) (by simp)) (by trivial) ?_
          rintro k ⟨⟩ hk hi
          simp only [List.cons_append, List.nil_append]
          refine WpC.seq (WpC.ops tabOk (r := []) (by simp -implicitDefEqProofs [hn, d16, hn61, hn62, d20, d32, d36, hrow, hs, hz1, hz3, hz4] <;> rfl) rfl ?_)
          refine WpC.seq (WpC.condD (k < n) (by simp -implicitDefEqProofs [hn, d16, hn61, hn62, d20, d32, d36, hrow, hs, hz1, hz3, hz4] <;> omega) (fun hlt => ?_) (fun hge => ?_))
          · refine WpC.skip ?_
            have hst1 := pk_step pf k
            have hst2 := pk_step (fun i => (i : Int)) k
            have hst3 := sumN_step pn k
            have hmo := sumN_mono pn (show k + 1 ≤ n from hlt)
            obtain ⟨w, hw⟩ : ∃ w : Nat, wf k = w := ⟨(wf k).toNat, by have := (hwn k hlt).1; omega⟩
            have hwk := hwn k hlt
            rw [hw] at hwk
            unfold inN at hwk
            have hws : w ≤ s := by
              have h1 : (wf k).toNat ≤ sumN (fun i => (wf i).toNat) (k + 1) := by rw [sumN_step]; omega
              have h2 := sumN_mono (fun i => (wf i).toNat) (show k + 1 ≤ n from hlt)
              rw [hsumw] at h2
              omega
            have hmd := mulDiv_ok t w s (by unfold in64 at hT; omega) hws hs0 (by omega)
            have hq : t * w / s = pn k := by rw [← hpn]; simp only [hw]; rfl
            rw [hq] at hmd
            obtain ⟨v, hv⟩ : ∃ v, pn k = v := ⟨_, rfl⟩
            have hpk := hpi k
            rw [hv] at hmd hst3 hpk
            rw [hpk] at hst1
            have hkw : IntKind.i64.wrap ((k : Int) + 1) = k + 1 := wrapI (by omega) (by omega)
            have hsub : IntKind.i64.wrap (((t - sumN pn k : Nat) : Int) - v) = ((t - sumN pn (k + 1) : Nat) : Int) := by unfold in64 at hT; rw [wrapI (by omega) (by omega)]; omega
            obtain ⟨A, hA⟩ : ∃ A, pk pf k = A := ⟨_, rfl⟩
            obtain ⟨B, hB⟩ : ∃ B, pk (fun i => (i : Int)) k = B := ⟨_, rfl⟩
            rw [hA] at hst1
            rw [hB] at hst2
            have hup : upd A k (v : Int) k = (v : Int) := if_pos rfl
            refine WpC.seq ?_
            refine WpC.block ?_
            refine WpC.seq (WpC.ops tabOk (r := []) (by simp -implicitDefEqProofs [hn, d16, hn61, hn62, d20, d32, d36, hrow, hs, hz1, hz3, hz4, hlt, hw, hkw, hsub, hA, hB, hup] <;> rfl) rfl ?_)
            refine WpC.seq ?_
            refine WpC.region ?_
            refine WpO.run tabOk 5 (by simp -implicitDefEqProofs [hn, d16, hn61, hn62, d20, d32, d36, hrow, hs, hz1, hz3, hz4, hlt, hw, hkw, hsub, hA, hB, hup] <;> first | exact ⟨rfl, rfl⟩ | rfl) ?_
            refine WpO.data (by simp) rfl (by simp -implicitDefEqProofs [hn, d16, hn61, hn62, d20, d32, d36, hrow, hs, hz1, hz3, hz4, hlt, hw, hkw, hsub, hA, hB, hup] <;> rfl) (by simp -implicitDefEqProofs [hn, d16, hn61, hn62, d20, d32, d36, hrow, hs, hz1, hz3, hz4, hlt, hw, hkw, hsub, hA, hB, hup] <;> rfl) (by simp -implicitDefEqProofs [hn, d16, hn61, hn62, d20, d32, d36, hrow, hs, hz1, hz3, hz4, hlt, hw, hkw, hsub, hA, hB, hup] <;> rfl) call_31 (by simp) (hmd) (by rfl) (by simp -implicitDefEqProofs [hn, d16, hn61, hn62, d20, d32, d36, hrow, hs, hz1, hz3, hz4, hlt, hw, hkw, hsub, hA, hB, hup] <;> rfl) ?_
            refine WpO.run tabOk 5 (by simp -implicitDefEqProofs [hn, d16, hn61, hn62, d20, d32, d36, hrow, hs, hz1, hz3, hz4, hlt, hw, hkw, hsub, hA, hB, hup] <;> first | exact ⟨rfl, rfl⟩ | rfl) ?_
            refine WpO.nil ?_
            refine WpC.seq (WpC.ops tabOk (r := []) (by simp -implicitDefEqProofs [hn, d16, hn61, hn62, d20, d32, d36, hrow, hs, hz1, hz3, hz4, hlt, hw, hkw, hsub, hA, hB, hup] <;> rfl) rfl ?_)
            refine WpC.ops tabOk (r := []) (by simp -implicitDefEqProofs [hn, d16, hn61, hn62, d20, d32, d36, hrow, hs, hz1, hz3, hz4, hlt, hw, hkw, hsub, hA, hB, hup] <;> rfl) rfl ?_
            refine WpC.ops tabOk (r := []) (by simp -implicitDefEqProofs [hn, d16, hn61, hn62, d20, d32, d36, hrow, hs, hz1, hz3, hz4, hlt, hw, hkw, hsub, hA, hB, hup] <;> rfl) rfl ?_
            exact ⟨hlt, (), trivial, Gh.cut' [10, 48, 2, 3, 6, 8, 9, 46, 47] 5 (by simp -implicitDefEqProofs [hn, d16, hn61, hn62, d20, d32, d36, hrow, hs, hz1, hz3, hz4, hlt, hw, hkw, hsub, hA, hB, hup, hst1, hst2, hst3]) (by simp -implicitDefEqProofs [hn, d16, hn61, hn62, d20, d32, d36, hrow, hs, hz1, hz3, hz4, hlt, hw, hkw, hsub, hA, hB, hup, hst1, hst2, hst3]) rfl (by simp) (by simp) (by simp)⟩
          · refine WpC.exit ?_
            have hkn : n = k := by omega
            subst hkn
            have hall1 := pk_all pf n
            have hall2 := pk_all (fun i => (i : Int)) n
            rw [hlft]
            refine WpC.seq ?_
            refine WpC.region ?_
            refine WpO.run tabOk 1 (by simp -implicitDefEqProofs [hn, d16, hn61, hn62, d20, d32, d36, hrow, hs, hz1, hz3, hz4, hall1, hall2] <;> first | exact ⟨rfl, rfl⟩ | rfl) ?_
            refine WpO.callP [3] (by simp) rfl (by simp -implicitDefEqProofs [hn, d16, hn61, hn62, d20, d32, d36, hrow, hs, hz1, hz3, hz4, hall1, hall2] <;> rfl) (by simp -implicitDefEqProofs [hn, d16, hn61, hn62, d20, d32, d36, hrow, hs, hz1, hz3, hz4, hall1, hall2] <;> rfl) call_32 (by simp) (by simp) (by simp) (by simp -implicitDefEqProofs [hn, d16, hn61, hn62, d20, d32, d36, hrow, hs, hz1, hz3, hz4, hall1, hall2]) (by simp; rfl) (by simp -implicitDefEqProofs [hn, d16, hn61, hn62, d20, d32, d36, hrow, hs, hz1, hz3, hz4, hall1, hall2]) ( cloneOwn_ok (rowF pf n) n (by simp) (by omega)) fun r S1 hr => ?_
            obtain ⟨rfl, rfl⟩ := hr
            refine ⟨_, by simp -implicitDefEqProofs [hn, d16, hn61, hn62, d20, d32, d36, hrow, hs, hz1, hz3, hz4, hall1, hall2] <;> rfl, ?_⟩
            refine WpO.run tabOk 2 (by simp -implicitDefEqProofs [hn, d16, hn61, hn62, d20, d32, d36, hrow, hs, hz1, hz3, hz4, hall1, hall2] <;> first | exact ⟨rfl, rfl⟩ | rfl) ?_
            refine WpO.nil ?_
            refine WpC.seq ?_
            refine WpC.region ?_
            refine WpO.run tabOk 2 (by simp -implicitDefEqProofs <;> first | exact ⟨rfl, rfl⟩ | rfl) ?_
            refine WpO.gh (Gh.frzO [0, 1, 2, 5, 6] [(77, .fn 34 [.dp [dI t], .dp [dI s], .dp [.list 1 (rowF wf n)], .dp [.list 1 (rowF pf n)]])] (fun p hp => ⟨.fn 34 [.ref 0 0, .ref 2 0, .ref 1 0, .ref 6 0], by simp at hp; subst hp; simp, by simp at hp; subst hp; simp [maskO]⟩)) ?_
            simp only [maskO]
            refine WpO.callP [4] (by simp) rfl (by simp -implicitDefEqProofs <;> rfl) (by simp -implicitDefEqProofs <;> rfl) call_33 (by simp) (by simp) (by simp) (by simp -implicitDefEqProofs) (by simp; rfl) (by simp -implicitDefEqProofs) hso fun r S1 hr => ?_
            obtain ⟨h, rfl, rfl, m1, t1⟩ := hr
            refine ⟨_, by simp -implicitDefEqProofs <;> rfl, ?_⟩
            refine WpO.nil ?_
            refine WpC.seq ?_
            have hlf1 : lft ≤ n := by omega
            have hlf2 : (lft : Int) ≤ n := by omega
            obtain ⟨hin, hinj, hrk, hsj⟩ := rank hcm m1 t1
            have hz5 : rowF pf n = rowF (incF pf h 0) n := rowF_ext fun i hi => by simp [incF]
            refine WpC.seq (WpC.ops tabOk (r := []) (by simp -implicitDefEqProofs [hn, d16, hn61, hn62, d20, d32, d36, hrow, hs, hz1, hz3, hz4, hall1, hall2, hlf1, hlf2] <;> rfl) rfl ?_)
            refine WpC.block ?_
            refine WpC.loopK [8, 81, 82] [83] (lft) (() : Unit) (fun k _ => [(83, .d (.int .i64 k))]) (fun k _ => [.gone, .gone, .gone, .arr 3 1 (rowF (incF pf h k) n), .arr 3 1 (rowF h n)]) (fun k _ => True) (by simp -implicitDefEqProofs [hn, d16, hn61, hn62, d20, d32, d36, hrow, hs, hz1, hz3, hz4, hall1, hall2, hlf1, hlf2] <;> rfl) (Gh.cut' [83, 8, 81, 82] 5 (by simp -implicitDefEqProofs [hlf1, hlf2]) (by simp -implicitDefEqProofs [hz5]) rfl (by simp) (by simp) (by simp)) (by trivial) ?_
            rintro k ⟨⟩ hk hi
            simp only [List.cons_append, List.nil_append]
            refine WpC.seq (WpC.ops tabOk (r := []) (by simp -implicitDefEqProofs [hn, d16, hn61, hn62, d20, d32, d36, hrow, hs, hz1, hz3, hz4, hall1, hall2, hlf1, hlf2] <;> rfl) rfl ?_)
            refine WpC.seq (WpC.condD (k < lft) (by simp -implicitDefEqProofs [hn, d16, hn61, hn62, d20, d32, d36, hrow, hs, hz1, hz3, hz4, hall1, hall2, hlf1, hlf2] <;> omega) (fun hlt => ?_) (fun hge => ?_))
            · refine WpC.skip ?_
              obtain ⟨hk0, hkn⟩ := hin k (by omega)
              obtain ⟨q, hq⟩ : ∃ q : Nat, h k = q := ⟨(h k).toNat, by omega⟩
              have hstep := incF_step pf (h := h) (k := k) hk0
              have hqn : q < n := by omega
              have hcnt : (List.range k).countP (fun p => decide (h p = (q : Int))) ≤ k := Nat.le_trans List.countP_le_length (by simp)
              have hval : incF pf h k q ≤ (pn q : Int) + k ∧ 0 ≤ incF pf h k q := by
                unfold incF; rw [hpi]; omega
              have hpq : pn q ≤ sumN pn n := by
                have h1 : pn q ≤ sumN pn (q + 1) := by rw [sumN_step]; omega
                have h2 := sumN_mono pn (show q + 1 ≤ n from hqn)
                omega
              have hkw : IntKind.i64.wrap ((k : Int) + 1) = k + 1 := wrapI (by omega) (by omega)
              have hwq : IntKind.i64.wrap (incF pf h k q + 1) = incF pf h k q + 1 := wrapI (by omega) (by unfold in64 at hT; omega)
              rw [hq, Int.toNat_natCast] at hstep
              obtain ⟨A, hA⟩ : ∃ A, incF pf h k = A := ⟨_, rfl⟩
              rw [hA] at hwq hstep
              have hkn2 : k < n := by omega
              refine WpC.seq ?_
              refine WpC.block ?_
              refine WpC.seq (WpC.ops tabOk (r := []) (by simp -implicitDefEqProofs [hn, d16, hn61, hn62, d20, d32, d36, hrow, hs, hz1, hz3, hz4, hall1, hall2, hlf1, hlf2, hlt, hq, hqn, hkw, hwq, hA, hkn2] <;> rfl) rfl ?_)
              refine WpC.ops tabOk (r := []) (by simp -implicitDefEqProofs [hn, d16, hn61, hn62, d20, d32, d36, hrow, hs, hz1, hz3, hz4, hall1, hall2, hlf1, hlf2, hlt, hq, hqn, hkw, hwq, hA, hkn2] <;> rfl) rfl ?_
              refine WpC.ops tabOk (r := []) (by simp -implicitDefEqProofs [hn, d16, hn61, hn62, d20, d32, d36, hrow, hs, hz1, hz3, hz4, hall1, hall2, hlf1, hlf2, hlt, hq, hqn, hkw, hwq, hA, hkn2] <;> rfl) rfl ?_
              exact ⟨hlt, (), trivial, Gh.cut' [83, 8, 81, 82] 5 (by simp -implicitDefEqProofs [hn, d16, hn61, hn62, d20, d32, d36, hrow, hs, hz1, hz3, hz4, hall1, hall2, hlf1, hlf2, hlt, hq, hqn, hkw, hwq, hA, hkn2, hstep]) (by simp -implicitDefEqProofs [hn, d16, hn61, hn62, d20, d32, d36, hrow, hs, hz1, hz3, hz4, hall1, hall2, hlf1, hlf2, hlt, hq, hqn, hkw, hwq, hA, hkn2, hstep]) rfl (by simp) (by simp) (by simp)⟩
            · refine WpC.exit ?_
              have hkl : lft = k := by omega
              subst hkl
              have hfin : rowF (incF pf h lft) n = rowF (splitF (t : Int) ws) n := rowF_ext fun i hi => by
                rw [incF_end pf hcm m1 t1 hlf1 hi]
                unfold splitF
                rw [hpfe, hwf, hs, hn, hspL]
              refine WpC.seq (WpC.ops tabOk (r := []) (by simp -implicitDefEqProofs [hn, d16, hn61, hn62, d20, d32, d36, hrow, hs, hz1, hz3, hz4, hall1, hall2, hlf1, hlf2] <;> rfl) rfl ?_)
              refine WpC.ret ?_
              try simp only [blockQ, seqQ]
              refine retD_i (by simp -implicitDefEqProofs [hn, d16, hn61, hn62, d20, d32, d36, hrow, hs, hz1, hz3, hz4, hall1, hall2, hlf1, hlf2] <;> rfl) (by simp -implicitDefEqProofs [hn, d16, hn61, hn62, d20, d32, d36, hrow, hs, hz1, hz3, hz4, hall1, hall2, hlf1, hlf2] <;> rfl) ?_
              simp [e0, spR, hn, hfin]
end Go.Proofs.Ytaobnhenjldjeaa.Pay
/- Lists compared; what Split gives, as a list. No statement of the seed is proved here. -/
namespace Go.Proofs.Ytaobnhenjldjeaa.Pay
open Go Go.RowKit
set_option linter.unusedVariables false
set_option linter.unusedSimpArgs false
set_option linter.unusedSectionVars false

theorem same_ok (a b : List Int) (h1 : a.length ≤ 1000000) (h2 : b.length ≤ 1000000) : Gives Try.prog 13 [.d (.list 1 (a.map dI)), .d (.list 1 (b.map dI))] (.d (.bool (decide (a = b)))) := by
  refine Gives.enter tabOk Try.func13 rfl (by show 2 ≤ 26; decide) ?_
  simp only [Try.f13]
  refine WpC.seq (WpC.ops tabOk (r := []) (by simp -implicitDefEqProofs <;> rfl) rfl ?_)
  refine WpC.seq ?_
  refine WpC.seq (WpC.ops tabOk (r := []) (by simp -implicitDefEqProofs <;> rfl) rfl ?_)
  refine WpC.condD (¬ (a.length : Int) = b.length) (by simp -implicitDefEqProofs) (fun d10 => ?_) (fun d10 => ?_)
  · refine WpC.seq (WpC.ops tabOk (r := []) (by simp -implicitDefEqProofs [d10] <;> rfl) rfl ?_)
    refine WpC.ret ?_
    try simp only [blockQ, seqQ]
    refine retD_i (by simp -implicitDefEqProofs [d10] <;> rfl) (by simp -implicitDefEqProofs [d10] <;> rfl) ?_
    have : ¬ a = b := fun h => d10 (by rw [h])
    simp [this]
  · have hle : a.length = b.length := by omega
    refine WpC.skip ?_
    refine WpC.seq ?_
    refine WpC.seq (WpC.ops tabOk (r := []) (by simp -implicitDefEqProofs [d10] <;> rfl) rfl ?_)
    refine WpC.block ?_
    refine WpC.loopK [0, 1] [5] (a.length) (() : Unit) (fun k _ => [(5, .d (.int .i64 k))]) (fun k _ => []) (fun k _ => a.take k = b.take k) (by simp -implicitDefEqProofs [d10] <;> rfl) (Gh.cut' [5, 0, 1] 0 (by simp -implicitDefEqProofs [d10]) (by simp -implicitDefEqProofs [d10]) rfl (by simp) (by simp) (by simp)) (by simp) ?_
    rintro k ⟨⟩ hk hi
    simp only [List.cons_append, List.nil_append]
    refine WpC.seq ?_
    refine WpC.seq (WpC.ops tabOk (r := []) (by simp -implicitDefEqProofs [d10] <;> rfl) rfl ?_)
    refine WpC.condD (k < a.length) (by simp -implicitDefEqProofs [d10] <;> omega) (fun hlt => ?_) (fun hge => ?_)
    · refine WpC.skip ?_
      obtain ⟨x, hx⟩ : ∃ x, a[k] = x := ⟨_, rfl⟩
      have hlb : k < b.length := by omega
      obtain ⟨y, hy⟩ : ∃ y, b[k] = y := ⟨_, rfl⟩
      have hw : IntKind.i64.wrap ((k : Int) + 1) = k + 1 := wrapI (by omega) (by omega)
      refine WpC.seq ?_
      refine WpC.block ?_
      refine WpC.seq (WpC.drawn tabOk (by kernel_rfl) 0 (by simp) ?_)
      refine DrO.run (fz := []) 3 (by simp -implicitDefEqProofs [d10, hlt, hx, hw, hlb, hy] <;> first | exact ⟨rfl, rfl, rfl, rfl⟩ | rfl) ?_
      refine DrO.run (fz := []) 3 (by simp -implicitDefEqProofs [d10, hlt, hx, hw, hlb, hy] <;> first | exact ⟨rfl, rfl, rfl, rfl⟩ | rfl) ?_
      refine DrO.run (fz := []) 3 (by simp -implicitDefEqProofs [d10, hlt, hx, hw, hlb, hy] <;> first | exact ⟨rfl, rfl, rfl, rfl⟩ | rfl) ?_
      refine DrO.nil ⟨by kernel_rfl, ?_⟩
      refine WpC.condD (x ≠ y) (by simp -implicitDefEqProofs [d10, hlt, hx, hw, hlb, hy]) (fun d25 => ?_) (fun d25 => ?_)
      · refine WpC.seq (WpC.ops tabOk (r := []) (by simp -implicitDefEqProofs [d10, hlt, hx, hw, hlb, hy, d25] <;> rfl) rfl ?_)
        refine WpC.ret ?_
        try simp only [blockQ, seqQ]
        refine retD_i (by simp -implicitDefEqProofs [d10, hlt, hx, hw, hlb, hy, d25] <;> rfl) (by simp -implicitDefEqProofs [d10, hlt, hx, hw, hlb, hy, d25] <;> rfl) ?_
        have : ¬ a = b := fun h => by subst h; exact d25 (hx.symm.trans hy)
        simp [this]
      · refine WpC.skip ?_
        refine WpC.ops tabOk (r := []) (by simp -implicitDefEqProofs [d10, hlt, hx, hw, hlb, hy, d25] <;> rfl) rfl ?_
        exact ⟨hlt, (), by rw [List.take_add_one, List.take_add_one, List.getElem?_eq_getElem hlt, List.getElem?_eq_getElem hlb, hi, hx, hy, Classical.not_not.1 d25], Gh.cut' [5, 0, 1] 0 (by simp -implicitDefEqProofs [d10, hlt, hx, hw, hlb, hy, d25]) (by simp) rfl (by simp) (by simp) (by simp)⟩
    · refine WpC.exit ?_
      have hkn : k = a.length := by omega
      subst hkn
      rw [List.take_of_length_le (Nat.le_refl _), hle, List.take_of_length_le (Nat.le_refl _)] at hi
      refine WpC.seq (WpC.ops tabOk (r := []) (by simp -implicitDefEqProofs [d10] <;> rfl) rfl ?_)
      refine WpC.ret ?_
      try simp only [blockQ, seqQ]
      refine retD_i (by simp -implicitDefEqProofs [d10] <;> rfl) (by simp -implicitDefEqProofs [d10] <;> rfl) ?_
      simp [hi]
def spS (T : Int) (ws : List Int) : List Int := if spE T ws = 0 then (List.range ws.length).map (splitF T ws) else []
theorem rowF_map (f : Nat → Int) (n : Nat) : rowF f n = ((List.range n).map f).map dI := by simp [rowF]
theorem spR_map (T : Int) (ws : List Int) : spR T ws = (spS T ws).map dI := by
  unfold spR spS
  split
  · exact rowF_map _ _
  · rfl
theorem splitL_ok (T : Int) (ws : List Int) (hT : in64 T) (hws : ∀ x ∈ ws, in64 x) (hlen : ws.length ≤ 1000000) :
    Gives Try.prog 19 [.d (dI T), .d (.list 1 (ws.map dI))] (.tup [.d (.list 1 ((spS T ws).map dI)), .d (dI (spE T ws))]) := by
  rw [← spR_map]; exact split_ok T ws hT hws hlen
end Go.Proofs.Ytaobnhenjldjeaa.Pay
/- What is so of parts. No statement of the seed is proved here. -/
namespace Go.Proofs.Ytaobnhenjldjeaa.Pay
open Go Go.RowKit
set_option linter.unusedVariables false
set_option linter.unusedSimpArgs false
set_option linter.unusedSectionVars false

theorem countP_le_of {α : Type} {P Q : α → Bool} : ∀ {l : List α}, (∀ x ∈ l, P x = true → Q x = true) → l.countP P ≤ l.countP Q
  | [], _ => by simp
  | x :: l, h => by
    have ih := countP_le_of (l := l) fun y hy => h y (by simp [hy])
    have hx := h x (by simp)
    rw [List.countP_cons, List.countP_cons]
    cases hp : P x <;> cases hq : Q x <;> simp_all <;> omega
theorem countP_lt_of {α : Type} {P Q : α → Bool} : ∀ {l : List α}, (∀ x ∈ l, P x = true → Q x = true) → (∃ x ∈ l, P x = false ∧ Q x = true) → l.countP P < l.countP Q
  | [], _, h => by obtain ⟨x, hx, _⟩ := h; simp at hx
  | x :: l, h, ⟨y, hy, hy2⟩ => by
    have hl := countP_le_of (P := P) (Q := Q) (l := l) fun y hy => h y (by simp [hy])
    have hx := h x (by simp)
    rw [List.countP_cons, List.countP_cons]
    rcases List.mem_cons.1 hy with rfl | hy
    · rw [hy2.1, hy2.2]; simp; omega
    · have ih := countP_lt_of (P := P) (Q := Q) (l := l) (fun y hy => h y (by simp [hy])) ⟨y, hy, hy2⟩
      cases hp : P x <;> cases hq : Q x <;> simp_all <;> omega
section
variable {c : Int → Int → Int} {n : Nat}
theorem okS_nat {i : Nat} (h : i < n) : okS n (i : Int) := ⟨by omega, by omega⟩
theorem ahead_less (hc : Cmp c (okS n)) {i j : Nat} (hi : i < n) (hj : j < n) (h : c (j : Int) (i : Int) < 0) : ahead c n j < ahead c n i := by
  unfold ahead
  refine countP_lt_of (fun k hk hkj => ?_) ⟨j, List.mem_range.2 hj, ?_, decide_eq_true h⟩
  · have hkn := List.mem_range.1 hk
    exact decide_eq_true (hc.tr _ _ _ (okS_nat hkn) (okS_nat hj) (okS_nat hi) (of_decide_eq_true hkj) h)
  · exact decide_eq_false (hc.irr (okS_nat hj))
theorem ahead_inj (hc : Cmp c (okS n)) {i j : Nat} (hi : i < n) (hj : j < n) (h : ahead c n i = ahead c n j) : i = j := by
  apply Classical.byContradiction
  intro hne
  rcases hc.tot (i : Int) (j : Int) (okS_nat hi) (okS_nat hj) (by omega) with h1 | h1
  · have := ahead_less hc hj hi h1; omega
  · have := ahead_less hc hi hj h1; omega
theorem ahead_lt (hc : Cmp c (okS n)) {i : Nat} (hi : i < n) : ahead c n i < n := by
  have h1 : ahead c n i < (List.range n).countP fun _ => true := countP_lt_of (fun _ _ _ => rfl) ⟨i, List.mem_range.2 hi, decide_eq_false (hc.irr (okS_nat hi)), rfl⟩
  simpa using h1
/-- Just so many are ahead of place l. -/
theorem ahead_count (hc : Cmp c (okS n)) {l : Nat} (hl : l ≤ n) : (List.range n).countP (fun (i : Nat) => decide (ahead c n i < l)) = l := by
  have hp := onto (n := n) (f := fun i => ahead c n i) (fun i hi => ahead_lt hc hi) (fun i j hi hj h => ahead_inj hc hi hj h)
  have e : (List.range n).countP (fun (i : Nat) => decide (ahead c n i < l)) = ((List.range n).map fun (i : Nat) => ahead c n i).countP fun x => decide (x < l) := by rw [List.countP_map]; rfl
  rw [e, hp.countP_eq]
  exact countP_lt n l hl
end

theorem cS_key (t s : Nat) (w p : Nat → Nat) (hp : ∀ i, p i = t * w i / s) (wf pf : Nat → Int) (hw : ∀ i, wf i = w i) (hpf : ∀ i, pf i = p i) (j i : Nat) : cS t s wf pf (j : Int) (i : Int) < 0 ↔ (t * w i % s < t * w j % s ∨ (t * w i % s = t * w j % s ∧ j < i)) := by
  have hr : ∀ k, (t : Int) * wf k - pf k * s = ((t * w k % s : Nat) : Int) := fun k => by
    rw [hw, hpf, hp, ← Int.natCast_mul, ← Int.natCast_mul]
    have := Nat.div_add_mod' (t * w k) s
    omega
  have e : ∀ i j, lessB t s wf pf i j = true ↔ t * w i % s < t * w j % s := fun i j => by
    have h1 := hr i
    have h2 := hr j
    unfold lessB
    rw [decide_eq_true_iff, Int.mul_sub, Int.sub_mul]
    omega
  unfold cS
  simp only [Int.toNat_natCast]
  by_cases h1 : lessB t s wf pf i j = true
  · rw [if_pos h1]
    have := (e _ _).1 h1
    omega
  · rw [if_neg h1]
    have h1' : ¬ _ := fun q => h1 ((e _ _).2 q)
    by_cases h2 : lessB t s wf pf j i = true
    · rw [if_pos h2]
      have := (e _ _).1 h2
      omega
    · rw [if_neg h2]
      have h2' : ¬ _ := fun q => h2 ((e _ _).2 q)
      omega

/-- What Split is asked, when nothing is wrong. -/
structure Asked (T : Int) (ws : List Int) (t s : Nat) (w : Nat → Nat) : Prop where
  n60 : ws.length ≤ 60
  t_ : T = t
  s_ : ws.sum = s
  s0 : 0 < s
  w_ : ∀ i, spW ws i = w i
  sw : sumN w ws.length = s
  sm : (s : Int) ≤ 9223372036854775807
theorem asked {T : Int} {ws : List Int} (h : spE T ws = 0) : ∃ t s w, Asked T ws t s w := by
  unfold spE at h
  split at h
  · simp at h
  · rename_i h60
    split at h
    · simp at h
    · rename_i hneg
      split at h
      · simp at h
      · rename_i hs
        split at h
        · simp at h
        · rename_i hz
          have h0 : ∀ x ∈ ws, 0 ≤ x := fun x hx => by
            have hf : (ws.any fun w => decide (w < 0)) = false := by
              cases hb : (ws.any fun w => decide (w < 0)) with
              | false => rfl
              | true => exact absurd (.inr hb) hneg
            rw [List.any_eq_false] at hf
            have := hf x hx
            simp at this; omega
          have hsum := sum_nonneg h0
          have hsb : sumB ws = true := by cases hb : sumB ws with
            | true => rfl
            | false => exact absurd hb hs
          have hsM := of_decide_eq_true hsb
          refine ⟨T.toNat, ws.sum.toNat, fun i => (spW ws i).toNat, ⟨by omega, by omega, by omega, by omega, fun i => ?_, sum_spW h0, by omega⟩⟩
          have : 0 ≤ spW ws i := by
            unfold spW
            cases hi : ws[i]? with
            | none => simp
            | some x => exact h0 x (List.mem_of_getElem? hi)
          omega
section
variable {T : Int} {ws : List Int} {t s : Nat} {w : Nat → Nat}
/-- A part, told by numbers. -/
def ptN (t s n : Nat) (w : Nat → Nat) (i : Nat) : Nat := t * w i / s + if ahead (cS t s (fun i => (w i : Int)) (fun i => ((t * w i / s : Nat) : Int))) n i < t - sumN (fun i => t * w i / s) n then 1 else 0
theorem splitF_pt (h : Asked T ws t s w) (i : Nat) : splitF T ws i = ptN t s ws.length w i := by
  have e1 : spN T ws = fun i => t * w i / s := by
    funext i; unfold spN; rw [h.w_, h.t_, h.s_]; rfl
  have e2 : spP T ws = fun i => ((t * w i / s : Nat) : Int) := by funext i; unfold spP; rw [e1]
  have e3 : spW ws = fun i => (w i : Int) := by funext i; exact h.w_ i
  unfold splitF ptN spL
  rw [e1, e2, e3, h.t_, h.s_]
  simp only [Int.toNat_natCast]
  split <;> simp
theorem spS_pt (h0 : spE T ws = 0) (h : Asked T ws t s w) : spS T ws = (List.range ws.length).map fun i => (ptN t s ws.length w i : Int) := by
  unfold spS
  rw [if_pos h0]
  exact List.map_congr_left fun i _ => splitF_pt h i
end
section
variable {t s n : Nat} {w : Nat → Nat}
theorem cS_cmpN (t s n : Nat) (w : Nat → Nat) : Cmp (cS t s (fun i => (w i : Int)) (fun i => ((t * w i / s : Nat) : Int))) (okS n) := cS_cmp _ _ _ _ n
theorem rem_sum (hw : sumN w n = s) : (t - sumN (fun i => t * w i / s) n) * s = sumN (fun i => t * w i % s) n := by
  have h := sumN_div t s w n
  rw [hw] at h
  rw [Nat.sub_mul]; omega
/-- What is left is no more than how many have something left over. -/
theorem left_some (hs : 0 < s) (hw : sumN w n = s) : t - sumN (fun i => t * w i / s) n ≤ (List.range n).countP fun i => decide (0 < t * w i % s) := by
  have h1 := rem_sum (t := t) hw
  have h2 : ∀ k, sumN (fun i => t * w i % s) k ≤ (List.range k).countP (fun i => decide (0 < t * w i % s)) * s := fun k => by
    induction k with
    | zero => simp [sumN]
    | succ k ih =>
      rw [sumN_step, List.range_succ, List.countP_append, Nat.add_mul]
      have h3 := Nat.mod_lt (t * w k) hs
      by_cases h4 : 0 < t * w k % s
      · simp [h4]; omega
      · simp [h4]; omega
  have h3 := h2 n
  rw [← h1] at h3
  exact Nat.le_of_mul_le_mul_right h3 hs
theorem pt_zero (hs : 0 < s) (hw : sumN w n = s) {i : Nat} (hi : i < n) (h0 : w i = 0) : ptN t s n w i = 0 := by
  unfold ptN
  have h1 := left_some (t := t) hs hw
  have h2 : (List.range n).countP (fun j => decide (0 < t * w j % s)) ≤ ahead (cS t s (fun i => (w i : Int)) (fun i => ((t * w i / s : Nat) : Int))) n i := by
    unfold ahead
    refine countP_le_of fun j hj h => ?_
    refine decide_eq_true ?_
    rw [cS_key t s w _ (fun _ => rfl) _ _ (fun _ => rfl) (fun _ => rfl)]
    have := of_decide_eq_true h
    rw [h0]; simp; omega
  rw [if_neg (by omega), h0]; simp
theorem pt_mono {i j : Nat} (hi : i < n) (hj : j < n) (h : w j < w i) : ptN t s n w j ≤ ptN t s n w i := by
  have hm : t * w j ≤ t * w i := Nat.mul_le_mul_left _ (by omega)
  have hd : t * w j / s ≤ t * w i / s := Nat.div_le_div_right hm
  unfold ptN
  by_cases he : t * w j / s = t * w i / s
  · have h3 : ahead (cS t s (fun i => (w i : Int)) (fun i => ((t * w i / s : Nat) : Int))) n j < t - sumN (fun i => t * w i / s) n → ahead (cS t s (fun i => (w i : Int)) (fun i => ((t * w i / s : Nat) : Int))) n i < t - sumN (fun i => t * w i / s) n := fun hl => by
      have ht : 0 < t := by omega
      have hlt : t * w j < t * w i := Nat.mul_lt_mul_of_pos_left h ht
      have e1 := Nat.div_add_mod' (t * w i) s
      have e2 := Nat.div_add_mod' (t * w j) s
      rw [he] at e2
      have hle : ahead (cS t s (fun i => (w i : Int)) (fun i => ((t * w i / s : Nat) : Int))) n i ≤ ahead (cS t s (fun i => (w i : Int)) (fun i => ((t * w i / s : Nat) : Int))) n j := by
        unfold ahead
        refine countP_le_of fun k hk h => decide_eq_true ?_
        have h' := of_decide_eq_true h
        rw [cS_key t s w _ (fun _ => rfl) _ _ (fun _ => rfl) (fun _ => rfl)] at h' ⊢
        omega
      omega
    split
    · rename_i h4; rw [if_pos (h3 h4)]; omega
    · omega
  · have h1 : t * w j / s + 1 ≤ t * w i / s := by omega
    split <;> omega
theorem pt_sum (hs : 0 < s) (hw : sumN w n = s) : sumN (ptN t s n w) n = t := by
  obtain ⟨h1, h2⟩ := left_le (t := t) hs hw
  have h3 := ahead_count (cS_cmpN t s n w) h2
  have key : ∀ (L k : Nat), sumN (fun i => t * w i / s + if ahead (cS t s (fun i => (w i : Int)) (fun i => ((t * w i / s : Nat) : Int))) n i < L then 1 else 0) k = sumN (fun i => t * w i / s) k + (List.range k).countP (fun (i : Nat) => decide (ahead (cS t s (fun i => (w i : Int)) (fun i => ((t * w i / s : Nat) : Int))) n i < L)) := fun L k => by
    induction k with
    | zero => simp [sumN]
    | succ k ih =>
      rw [sumN_step, sumN_step, ih, List.range_succ, List.countP_append]
      by_cases h : ahead (cS t s (fun i => (w i : Int)) (fun i => ((t * w i / s : Nat) : Int))) n k < L
      · simp [h]; omega
      · simp [h]; omega
  show sumN (fun i => t * w i / s + if ahead _ n i < _ then 1 else 0) n = t
  rw [key, h3]; omega
end
theorem sum_map_nat : ∀ (f : Nat → Nat) (n : Nat), ((List.range n).map fun i => (f i : Int)).sum = (sumN f n : Nat)
  | f, 0 => rfl
  | f, n + 1 => by
    rw [List.range_succ, List.map_append, List.sum_append, sum_map_nat f n, sumN_step]; simp
structure Whole (T : Int) (ws l : List Int) : Prop where
  T0 : 0 ≤ T
  len : l.length = ws.length
  pos : ∀ i (h : i < l.length), 0 ≤ l[i]
  zero : ∀ i (h : i < l.length) (h' : i < ws.length), ws[i] = 0 → l[i] = 0
  mono : ∀ i j (hi : i < l.length) (hj : j < l.length) (hi' : i < ws.length) (hj' : j < ws.length), ws[j] < ws[i] → l[j] ≤ l[i]
  sum : l.sum = T
theorem whole {T : Int} {ws : List Int} (h : spE T ws = 0) : Whole T ws (spS T ws) := by
  obtain ⟨t, s, w, ha⟩ := asked h
  have hl := spS_pt h ha
  have hn : (spS T ws).length = ws.length := by rw [hl]; simp
  have hat : ∀ i (hi : i < (spS T ws).length), (spS T ws)[i] = (ptN t s ws.length w i : Nat) := fun i hi => by simp [hl]
  have hwi : ∀ i (hi : i < ws.length), ws[i] = (w i : Int) := fun i hi => by rw [← ha.w_ i]; unfold spW; rw [List.getElem?_eq_getElem hi]; rfl
  refine ⟨by rw [ha.t_]; omega, hn, fun i hi => by rw [hat i hi]; omega, fun i hi hi' h0 => ?_, fun i j hi hj hi' hj' hlt => ?_, ?_⟩
  · rw [hat i hi, pt_zero (i := i) ha.s0 ha.sw hi' (by have := hwi i hi'; omega)]; rfl
  · rw [hat i hi, hat j hj]
    have := pt_mono (t := t) (s := s) (n := ws.length) (w := w) hi' hj' (by have := hwi i hi'; have := hwi j hj'; omega)
    omega
  · rw [hl, sum_map_nat, pt_sum ha.s0 ha.sw, ha.t_]
end Go.Proofs.Ytaobnhenjldjeaa.Pay
