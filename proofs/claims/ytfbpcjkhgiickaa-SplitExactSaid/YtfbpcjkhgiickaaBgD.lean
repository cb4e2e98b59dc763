/- Numbers of decimal digits: MulDiv walked. No statement of the seed is proved here. -/
import Derived.Test.YtfbpcjkhgiickaaBgC
namespace Go.Proofs.Ytfbpcjkhgiickaa.Pay
open Go Go.RowKit
set_option linter.unusedVariables false
set_option linter.unusedSimpArgs false
set_option linter.unusedSectionVars false

theorem Gh.nilD {s : St} {t : Nat} (k : Nat) (hx : get s.env t = some (.d .nil)) : Gh s { s with env := (t, .d (.list k [])) :: s.env } := Gh.slot hx fun w I L a v hs h => by
  simp only [VRel] at h ⊢
  exact nil_list h
theorem trimL_ok (l : List Int) (hn : l.length ≤ 1000000) : WpF Try.prog 39 [.sl 0 l.length] [.arr 3 1 (l.map dI)] fun r S => r = .sl 0 (trimN (atL l) l.length) ∧ S = [.arr 3 1 (l.map dI)] := by
  have := trim_ok (atL l) l.length hn
  rwa [← row_atL] at this
theorem double_ok (x : Nat) (hx : (dgs x).length ≤ 1000) : Gives Try.prog 42 [.d (.list 1 ((dgs x).map dI))] (.d (.list 1 ((dgs (2 * x)).map dI))) := by
  have h1 := of_ok 2 (by unfold in64; omega)
  have e1 : encB (decide ((2 : Int) < 0)) (2 : Int).natAbs = encB false 2 := rfl
  rw [e1] at h1
  have h2 := mulB_okB false false x 2 hx (Nat.le_trans (dgs_19 (by decide)) (by decide))
  have e2 : signB false false (x * 2) = false := by simp [signB]
  rw [e2, Nat.mul_comm] at h2
  unfold encB at h1 h2
  refine Gives.enter tabOk Try.func42 rfl (by show 1 ≤ 8; decide) ?_
  simp only [Try.f42]
  refine WpC.seq (WpC.ops tabOk (r := []) (by simp -implicitDefEqProofs <;> rfl) rfl ?_)
  refine WpC.seq ?_
  refine WpC.region ?_
  refine WpO.run tabOk 2 (by simp -implicitDefEqProofs <;> first | exact ⟨rfl, rfl⟩ | rfl) ?_
  refine WpO.data (by simp) rfl (by simp -implicitDefEqProofs <;> rfl) (by simp -implicitDefEqProofs <;> rfl) (by simp -implicitDefEqProofs <;> rfl) call_38 (by simp) (h1) (by rfl) (by simp -implicitDefEqProofs <;> rfl) ?_
  refine WpO.data (by simp) rfl (by simp -implicitDefEqProofs <;> rfl) (by simp -implicitDefEqProofs <;> rfl) (by simp -implicitDefEqProofs <;> rfl) call_37 (by simp) (h2) (by rfl) (by simp -implicitDefEqProofs <;> rfl) ?_
  refine WpO.run tabOk 2 (by simp -implicitDefEqProofs <;> first | exact ⟨rfl, rfl⟩ | rfl) ?_
  refine WpO.nil ?_
  refine WpC.ret ?_
  try simp only [blockQ, seqQ]
  refine retD_i (by simp -implicitDefEqProofs <;> rfl) (by simp -implicitDefEqProofs <;> rfl) ?_
  simp -implicitDefEqProofs
theorem dgs_at (n : Nat) : ∀ j, atL (dgs n) j = ((n / 10 ^ j % 10 : Nat) : Int) := by
  induction n using Nat.strongRecOn with
  | _ n ih =>
    intro j
    by_cases h : n = 0
    · subst h; rw [dgs_zero]; simp [atL]
    · rw [dgs_pos h]
      cases j with
      | zero => simp [atL]
      | succ j =>
        have : atL (((n % 10 : Nat) : Int) :: dgs (n / 10)) (j + 1) = atL (dgs (n / 10)) j := by simp [atL]
        rw [this, ih (n / 10) (by omega), Nat.div_div_eq_div_mul, Nat.pow_succ, Nat.mul_comm]
/-- The first k digits. -/
def preN (A k : Nat) : Nat := A / 10 ^ ((dgs A).length - k)
theorem preN_zero (A : Nat) : preN A 0 = 0 := Nat.div_eq_of_lt dgs_lt
theorem preN_all (A : Nat) : preN A (dgs A).length = A := by unfold preN; rw [Nat.sub_self]; simp
theorem preN_step {A k : Nat} (h : k < (dgs A).length) : (preN A (k + 1) : Int) = 10 * preN A k + atL (dgs A) ((dgs A).length - 1 - k) := by
  rw [dgs_at]
  unfold preN
  obtain ⟨j, hj⟩ : ∃ j, (dgs A).length - 1 - k = j := ⟨_, rfl⟩
  rw [show (dgs A).length - (k + 1) = j by omega, show (dgs A).length - k = j + 1 by omega, hj, Nat.pow_succ, ← Nat.div_div_eq_div_mul]
  omega
theorem preN_mono (A : Nat) {k j : Nat} (h : k ≤ j) : preN A k ≤ preN A j := Nat.div_le_div_left (Nat.pow_le_pow_right (by decide) (by omega)) (Nat.pow_pos (by decide))
/-- Digit k of the quotient. -/
def quoD (A C : Nat) (k : Nat) : Int := ((preN A (k + 1) / C : Nat) : Int) - 10 * ((preN A k / C : Nat) : Int)
def moreB (mode : Int) (q r C : Nat) : Bool := decide ((mode = 1 ∧ 0 < r) ∨ (1 < mode ∧ C < 2 * r) ∨ (2 * r = C ∧ (mode = 2 ∨ (mode = 3 ∧ q % 2 = 1))))
/-- a times b, by c. -/
def mdN (a b : Int) : Nat := a.natAbs * b.natAbs
def mdQ (a b c mode : Int) : Nat := mdN a b / c.natAbs + if moreB mode (mdN a b / c.natAbs) (mdN a b % c.natAbs) c.natAbs = true then 1 else 0
def mdOk (a b c mode : Int) : Bool := decide (mdQ a b c mode ≤ 9223372036854775807)
def mdMinus (a b c : Int) : Bool := signB (decide (a < 0)) (decide (b < 0)) (mdN a b) != decide (c < 0)
def mdR (a b c mode : Int) : Int := if mdOk a b c mode = true then (if mdMinus a b c = true then -(mdQ a b c mode : Int) else mdQ a b c mode) else 0
theorem div_step {P P' d C : Nat} (hC : 0 < C) (h : P' = 10 * P + d) : P' / C = 10 * (P / C) + (10 * (P % C) + d) / C ∧ P' % C = (10 * (P % C) + d) % C := by
  have e : P' = (10 * (P % C) + d) + C * (10 * (P / C)) := by
    have := Nat.div_add_mod P C
    rw [h, Nat.mul_left_comm]
    omega
  rw [e]
  exact ⟨by rw [Nat.add_mul_div_left _ _ hC]; omega, by rw [Nat.add_mul_mod_self_left]⟩
theorem sgn_geq (x y : Nat) : (0 ≤ sgnI ((x : Int) - y)) = (y ≤ x) := propext (by
  unfold sgnI
  by_cases h1 : (x : Int) - y < 0
  · rw [if_pos h1]; omega
  · rw [if_neg h1]
    by_cases h2 : 0 < (x : Int) - y
    · rw [if_pos h2]; omega
    · rw [if_neg h2]; omega)
theorem sgn_gt (x y : Nat) : (0 < sgnI ((x : Int) - y)) = (y < x) := propext (by
  unfold sgnI
  by_cases h1 : (x : Int) - y < 0
  · rw [if_pos h1]; omega
  · rw [if_neg h1]
    by_cases h2 : 0 < (x : Int) - y
    · rw [if_pos h2]; omega
    · rw [if_neg h2]; omega)
theorem sgn_eq (x y : Nat) : (sgnI ((x : Int) - y) = 0) = (x = y) := propext (by
  unfold sgnI
  by_cases h1 : (x : Int) - y < 0
  · rw [if_pos h1]; omega
  · rw [if_neg h1]
    by_cases h2 : 0 < (x : Int) - y
    · rw [if_pos h2]; omega
    · rw [if_neg h2]; omega)
def qN (A C k : Nat) : Nat := preN A k / C
theorem len39 {A : Nat} (h : A < 10 ^ 39) : (dgs A).length ≤ 39 := dgs_len_le h
theorem mdN_lt {a b : Int} (ha : in64 a) (hb : in64 b) : mdN a b ≤ 9223372036854775808 * 9223372036854775808 := by
  unfold in64 at ha hb
  exact Nat.mul_le_mul (by omega) (by omega)
set_option maxHeartbeats 40000000 in
theorem mulDivB_ok (a b c mode : Int) (ha : in64 a) (hb : in64 b) (hc : in64 c) (hc0 : c ≠ 0) (hm : in64 mode) : Gives Try.prog 24 [.d (dI a), .d (dI b), .d (dI c), .d (dI mode)] (.tup [.d (dI (mdR a b c mode)), .d (.bool (mdOk a b c mode))]) := by
  have o1 := of_ok a ha
  have o2 := of_ok b hb
  have o3 := of_ok c hc
  have hAl := mdN_lt ha hb
  have hmu := mulB_okB (decide (a < 0)) (decide (b < 0)) a.natAbs b.natAbs (Nat.le_trans (dgs_19 (by unfold in64 at ha; omega)) (by decide)) (Nat.le_trans (dgs_19 (by unfold in64 at hb; omega)) (by decide))
  have hC0 : 0 < c.natAbs := by omega
  have hCb : c.natAbs ≤ 9223372036854775808 := by unfold in64 at hc; omega
  unfold mdR mdOk mdMinus mdQ
  obtain ⟨A, hA⟩ : ∃ A, mdN a b = A := ⟨_, rfl⟩
  have hA' : a.natAbs * b.natAbs = A := hA
  rw [hA] at hAl ⊢
  rw [hA'] at hmu
  obtain ⟨C, hC⟩ : ∃ C, c.natAbs = C := ⟨_, rfl⟩
  rw [hC] at o3 hC0 hCb ⊢
  obtain ⟨pm, hpm⟩ : ∃ z, signB (decide (a < 0)) (decide (b < 0)) A = z := ⟨_, rfl⟩
  rw [hpm] at hmu ⊢
  obtain ⟨cm, hcm⟩ : ∃ b, decide (c < 0) = b := ⟨_, rfl⟩
  rw [hcm] at o3 ⊢
  obtain ⟨q, hq⟩ : ∃ q, A / C = q := ⟨_, rfl⟩
  obtain ⟨r, hr⟩ : ∃ q, A % C = q := ⟨_, rfl⟩
  have hrC : r < C := hr ▸ Nat.mod_lt _ hC0
  rw [hq, hr]
  obtain ⟨mo, hmo⟩ : ∃ b, moreB mode q r C = b := ⟨_, rfl⟩
  rw [hmo]
  have hL : (dgs A).length ≤ 39 := dgs_len_le (Nat.lt_of_le_of_lt hAl (by decide))
  have hCl : (dgs C).length ≤ 19 := dgs_19 hCb
  have p0 := preN_zero A
  have pL := preN_all A
  have pst := fun k h => preN_step (A := A) (k := k) h
  have ddig := atL_dgs A
  have pmo := fun k j h => preN_mono A (k := k) (j := j) h
  have hd0 := double_ok r
  have hsz := size_dgs (2 * r) C
  have hz0 : rowF (quoD A C) 0 = [] := rfl
  have hA0 : (dgs A).length = 0 → q = 0 := fun h => by rw [dgs_nil.1 h] at hq; simp at hq; exact hq.symm
  have hrl : (dgs (2 * r)).length ≤ 1000 ∧ (dgs r).length ≤ 1000 := by
    have h1 : (dgs (2 * r)).length ≤ 20 := dgs_len_le (by omega)
    have h2 : (dgs r).length ≤ 20 := dgs_len_le (by omega)
    omega
  have hd1 := hd0 hrl.2
  have hs1 := sizeB_ok (dgs (2 * r)) (dgs C) (by omega) (by omega)
  rw [hsz] at hs1
  have dgr0 : (0 < (dgs r).length) = (0 < r) := propext (by have := dgs_nil (n := r); omega)
  unfold encB at o1 o2 o3 hmu
  obtain ⟨L, hLn⟩ : ∃ L, (dgs A).length = L := ⟨_, rfl⟩
  rw [hLn] at hL pL pst hA0
  have hw0 : IntKind.i64.wrap ((L : Int) - 1) = (L : Int) - 1 := wrapI (by omega) (by omega)
  refine Gives.enter tabOk Try.func24 rfl (by show 4 ≤ 146; decide) ?_
  simp only [Try.f24]
  refine WpC.seq (WpC.ops tabOk (r := []) (by simp -implicitDefEqProofs [hLn, hw0, p0, dgs_zero, hz0] <;> rfl) rfl ?_)
  refine WpC.seq ?_
  refine WpC.region ?_
  refine WpO.run tabOk 1 (by simp -implicitDefEqProofs [hLn, hw0, p0, dgs_zero, hz0] <;> first | exact ⟨rfl, rfl⟩ | rfl) ?_
  refine WpO.data (by simp) rfl (by simp -implicitDefEqProofs [hLn, hw0, p0, dgs_zero, hz0] <;> rfl) (by simp -implicitDefEqProofs [hLn, hw0, p0, dgs_zero, hz0] <;> rfl) (by simp -implicitDefEqProofs [hLn, hw0, p0, dgs_zero, hz0] <;> rfl) call_38 (by simp) (o1) (by rfl) (by simp -implicitDefEqProofs [hLn, hw0, p0, dgs_zero, hz0] <;> rfl) ?_
  refine WpO.run tabOk 1 (by simp -implicitDefEqProofs [hLn, hw0, p0, dgs_zero, hz0] <;> first | exact ⟨rfl, rfl⟩ | rfl) ?_
  refine WpO.data (by simp) rfl (by simp -implicitDefEqProofs [hLn, hw0, p0, dgs_zero, hz0] <;> rfl) (by simp -implicitDefEqProofs [hLn, hw0, p0, dgs_zero, hz0] <;> rfl) (by simp -implicitDefEqProofs [hLn, hw0, p0, dgs_zero, hz0] <;> rfl) call_38 (by simp) (o2) (by rfl) (by simp -implicitDefEqProofs [hLn, hw0, p0, dgs_zero, hz0] <;> rfl) ?_
  refine WpO.data (by simp) rfl (by simp -implicitDefEqProofs [hLn, hw0, p0, dgs_zero, hz0] <;> rfl) (by simp -implicitDefEqProofs [hLn, hw0, p0, dgs_zero, hz0] <;> rfl) (by simp -implicitDefEqProofs [hLn, hw0, p0, dgs_zero, hz0] <;> rfl) call_37 (by simp) (hmu) (by rfl) (by simp -implicitDefEqProofs [hLn, hw0, p0, dgs_zero, hz0] <;> rfl) ?_
  refine WpO.run tabOk 1 (by simp -implicitDefEqProofs [hLn, hw0, p0, dgs_zero, hz0] <;> first | exact ⟨rfl, rfl⟩ | rfl) ?_
  refine WpO.data (by simp) rfl (by simp -implicitDefEqProofs [hLn, hw0, p0, dgs_zero, hz0] <;> rfl) (by simp -implicitDefEqProofs [hLn, hw0, p0, dgs_zero, hz0] <;> rfl) (by simp -implicitDefEqProofs [hLn, hw0, p0, dgs_zero, hz0] <;> rfl) call_38 (by simp) (o3) (by rfl) (by simp -implicitDefEqProofs [hLn, hw0, p0, dgs_zero, hz0] <;> rfl) ?_
  refine WpO.run tabOk 4 (by simp -implicitDefEqProofs [hLn, hw0, p0, dgs_zero, hz0] <;> first | exact ⟨rfl, rfl⟩ | rfl) ?_
  refine WpO.nil ?_
  refine WpC.seq (WpC.ops tabOk (r := []) (by simp -implicitDefEqProofs [hLn, hw0, p0, dgs_zero, hz0] <;> rfl) rfl ?_)
  refine WpC.seq ?_
  refine WpC.gh (Gh.nilD 1 (t := 12) (by simp)) ?_
  refine WpC.gh (Gh.nilArr 3 1 (t := 13) (by simp) (by simp)) ?_
  refine WpC.seq (WpC.ops tabOk (r := []) (by simp -implicitDefEqProofs [hLn, hw0, p0, dgs_zero, hz0] <;> rfl) rfl ?_)
  refine WpC.block ?_
  refine WpC.loopM [3, 10, 11] [12, 13, 14] (fun k => L - k) (0 : Nat) (fun k => [(12, .d (.list 1 ((dgs (preN A k % C)).map dI))), (13, .sl 2 k), (14, .d (dI ((L : Int) - 1 - k)))]) (fun k => [.cells 65 [.d (.bool pm), .d (.list 1 ((dgs A).map dI))], .cells 65 [.d (.bool cm), .d (.list 1 ((dgs C).map dI))], .arr 3 1 (rowF (quoD A C) k)]) (fun k => k ≤ L) (by simp -implicitDefEqProofs [hLn, hw0, p0, dgs_zero, hz0] <;> rfl) (Gh.cut' [12, 13, 14, 3, 10, 11] 3 (by simp -implicitDefEqProofs [hLn, hw0, p0, dgs_zero, hz0]) (by simp -implicitDefEqProofs [hLn, hw0, p0, dgs_zero, hz0]) rfl (by simp) (by simp) (by simp)) (Nat.zero_le _) ?_
  rintro k hi
  simp only [List.cons_append, List.nil_append]
  have hkL : k ≤ L := hi
  refine WpC.seq ?_
  refine WpC.seq (WpC.ops tabOk (r := []) (by simp -implicitDefEqProofs [hLn, hw0, p0, dgs_zero, hz0] <;> rfl) rfl ?_)
  refine WpC.condD ((0 : Int) ≤ (L : Int) - 1 - k) (by simp -implicitDefEqProofs [hLn, hw0, p0, dgs_zero, hz0]) (fun d34 => ?_) (fun d34 => ?_)
  · have hkl : k < L := by omega
    have hst := pst k hkl
    obtain ⟨j, hj⟩ : ∃ j, L - 1 - k = j := ⟨_, rfl⟩
    have hjA : j < (dgs A).length := by omega
    have hjL : j < L := by omega
    obtain ⟨d, hd⟩ : ∃ d, (dgs A)[j] = d := ⟨_, rfl⟩
    have hdA : atL (dgs A) j = d := by rw [← hd, atL_at hjA]
    have hdb := ddig j
    rw [hj] at hst
    rw [hdA] at hst hdb
    have hji : (L : Int) - 1 - k = j := by omega
    have hjw : IntKind.i64.wrap ((j : Int) - 1) = (L : Int) - 1 - ((k + 1 : Nat) : Int) := by rw [wrapI (by omega) (by omega)]; omega
    rw [hji]
    obtain ⟨P, hP⟩ : ∃ P, preN A k = P := ⟨_, rfl⟩
    obtain ⟨P2, hP2⟩ : ∃ P, preN A (k + 1) = P := ⟨_, rfl⟩
    rw [hP, hP2] at hst
    rw [hP]
    obtain ⟨dn, hdn⟩ : ∃ n : Nat, d = n := ⟨d.toNat, by omega⟩
    have hds := div_step (C := C) hC0 (show P2 = 10 * P + dn by omega)
    have hqd : quoD A C k = ((P2 / C : Nat) : Int) - 10 * ((P / C : Nat) : Int) := by unfold quoD; rw [hP, hP2]
    have hmC := Nat.mod_lt P hC0
    obtain ⟨R, hR⟩ : ∃ R, P % C = R := ⟨_, rfl⟩
    rw [hR] at hds hmC
    obtain ⟨L2, hL2⟩ : ∃ L2, 10 * R + dn = L2 := ⟨_, rfl⟩
    rw [hL2] at hds
    have hRl : (dgs R).length ≤ 20 := dgs_len_le (by omega)
    have hto := trimL_ok (d :: dgs R) (by simp; omega)
    have hvl : valF (atL (d :: dgs R)) (d :: dgs R).length = L2 := by
      rw [← valF_listF (fun i hi => by
        cases i with
        | zero => simpa [atL] using hdb.1
        | succ i => have := (atL_dgs R i).1; simpa [atL] using this), listF_atL]
      simp only [valL, (dgs_is R).2]; omega
    have hrt := row_trim (g := atL (d :: dgs R)) (n := (d :: dgs R).length) (x := L2) (fun i hi => by
        cases i with
        | zero => simpa [atL] using hdb
        | succ i => have := (atL_dgs R i); simpa [atL] using this) hvl
    rw [← row_atL] at hrt
    have hle := trimN_le (atL (d :: dgs R)) (d :: dgs R).length
    obtain ⟨m, hm⟩ : ∃ m, trimN (atL (d :: dgs R)) (d :: dgs R).length = m := ⟨_, rfl⟩
    rw [hm] at hto hrt hle
    simp only [List.map_cons, List.length_cons] at hto hrt hle
    have hR9 : (dgs R).length + 1 ≤ 8589934592 := by omega
    have hR7 : 1 + (dgs R).length = (dgs R).length + 1 := Nat.add_comm ..
    have hR8 : (dgs R).length ≤ 8589934591 := by omega
    have hkk : k ≤ 8589934591 := by omega
    have hro := rowF_snoc (quoD A C) k
    refine WpC.skip ?_
    refine WpC.seq ?_
    refine WpC.block ?_
    refine WpC.seq (WpC.ops tabOk (r := []) (by simp -implicitDefEqProofs [hLn, hw0, p0, dgs_zero, hz0, d34, hjA, hjL, hd, hR, hjw, hR9, hR7, hR8, hkk, hle] <;> rfl) rfl ?_)
    refine WpC.gh (Gh.nilArr 3 1 (t := 15) (by simp) (by simp)) ?_
    refine WpC.seq (WpC.ops tabOk (r := []) (by simp -implicitDefEqProofs [hLn, hw0, p0, dgs_zero, hz0, d34, hjA, hjL, hd, hR, hjw, hR9, hR7, hR8, hkk, hle] <;> rfl) rfl ?_)
    refine WpC.seq ?_
    refine WpC.region ?_
    refine WpO.run tabOk 3 (by simp -implicitDefEqProofs [hLn, hw0, p0, dgs_zero, hz0, d34, hjA, hjL, hd, hR, hjw, hR9, hR7, hR8, hkk, hle] <;> first | exact ⟨rfl, rfl⟩ | rfl) ?_
    refine WpO.callP [6] (by simp) rfl (by simp -implicitDefEqProofs [hLn, hw0, p0, dgs_zero, hz0, d34, hjA, hjL, hd, hR, hjw, hR9, hR7, hR8, hkk, hle] <;> rfl) (by simp -implicitDefEqProofs [hLn, hw0, p0, dgs_zero, hz0, d34, hjA, hjL, hd, hR, hjw, hR9, hR7, hR8, hkk, hle] <;> rfl) call_39 (by simp) (by simp) (by simp) (by simp -implicitDefEqProofs [hLn, hw0, p0, dgs_zero, hz0, d34, hjA, hjL, hd, hR, hjw, hR9, hR7, hR8, hkk, hle]) (by simp; rfl) (by simp -implicitDefEqProofs [hLn, hw0, p0, dgs_zero, hz0, d34, hjA, hjL, hd, hR, hjw, hR9, hR7, hR8, hkk, hle]) ( hto) fun r S1 hr => ?_
    obtain ⟨rfl, rfl⟩ := hr
    refine ⟨_, by simp -implicitDefEqProofs [hLn, hw0, p0, dgs_zero, hz0, d34, hjA, hjL, hd, hR, hjw, hR9, hR7, hR8, hkk, hle] <;> rfl, ?_⟩
    refine WpO.run tabOk 1 (by simp -implicitDefEqProofs [hLn, hw0, p0, dgs_zero, hz0, d34, hjA, hjL, hd, hR, hjw, hR9, hR7, hR8, hkk, hle] <;> first | exact ⟨rfl, rfl⟩ | rfl) ?_
    refine WpO.nil ?_
    refine WpC.gh (Gh.frz [6]) ?_
    refine WpC.gh (Gh.view (t := 12) (x := .sl 6 m) (y := .d (.list 1 ((dgs L2).map dI))) (by simp) (by simp [hrt, hle])) ?_
    refine WpC.seq (WpC.ops tabOk (r := []) (by simp -implicitDefEqProofs [hLn, hw0, p0, dgs_zero, hz0, d34, hjA, hjL, hd, hR, hjw, hR9, hR7, hR8, hkk, hle] <;> rfl) rfl ?_)
    refine WpC.seq ?_
    refine WpC.block ?_
    refine WpC.loopM [3, 10, 11, 13, 14] [12, 16] (fun x => x.1) ((L2, 0) : Nat × Nat) (fun x => [(12, .d (.list 1 ((dgs x.1).map dI))), (16, .d (dI (x.2 : Nat)))]) (fun x => [.cells 65 [.d (.bool pm), .d (.list 1 ((dgs A).map dI))], .cells 65 [.d (.bool cm), .d (.list 1 ((dgs C).map dI))], .arr 3 1 (rowF (quoD A C) k)]) (fun x => L2 = x.1 + x.2 * C) (by simp -implicitDefEqProofs [hLn, hw0, p0, dgs_zero, hz0, d34, hjA, hjL, hd, hR, hjw, hR9, hR7, hR8, hkk, hle] <;> rfl) (Gh.cut' [12, 16, 3, 10, 11, 13, 14] 3 (by simp -implicitDefEqProofs [hLn, hw0, p0, dgs_zero, hz0, d34, hjA, hjL, hd, hR, hjw, hR9, hR7, hR8, hkk, hle]) (by simp -implicitDefEqProofs [hLn, hw0, p0, dgs_zero, hz0, d34, hjA, hjL, hd, hR, hjw, hR9, hR7, hR8, hkk, hle]) rfl (by simp) (by simp) (by simp)) (by simp) ?_
    rintro x hi
    simp only [List.cons_append, List.nil_append]
    obtain ⟨x, e⟩ := x
    simp only at hi ⊢
    have hL2b : L2 < 10 * C := by omega
    have he10 : e < 10 := Nat.lt_of_mul_lt_mul_right (a := C) (by omega)
    have hxl : (dgs x).length ≤ 21 := dgs_len_le (by omega)
    have hsz2 := sizeB_ok (dgs x) (dgs C) (by omega) (by omega)
    rw [size_dgs] at hsz2
    have hew : IntKind.i64.wrap ((e : Int) + 1) = e + 1 := wrapI (by omega) (by omega)
    have hls := fun h => lessB_ok x C h (by omega)
    have hgq := sgn_geq x C
    refine WpC.seq ?_
    refine WpC.seq ?_
    refine WpC.region ?_
    refine WpO.run tabOk 3 (by simp -implicitDefEqProofs [hLn, hw0, p0, dgs_zero, hz0, d34, hjA, hjL, hd, hR, hjw, hR9, hR7, hR8, hkk, hle, hew, hgq] <;> first | exact ⟨rfl, rfl⟩ | rfl) ?_
    refine WpO.data (by simp) rfl (by simp -implicitDefEqProofs [hLn, hw0, p0, dgs_zero, hz0, d34, hjA, hjL, hd, hR, hjw, hR9, hR7, hR8, hkk, hle, hew, hgq] <;> rfl) (by simp -implicitDefEqProofs [hLn, hw0, p0, dgs_zero, hz0, d34, hjA, hjL, hd, hR, hjw, hR9, hR7, hR8, hkk, hle, hew, hgq] <;> rfl) (by simp -implicitDefEqProofs [hLn, hw0, p0, dgs_zero, hz0, d34, hjA, hjL, hd, hR, hjw, hR9, hR7, hR8, hkk, hle, hew, hgq] <;> rfl) call_40 (by simp) (hsz2) (by rfl) (by simp -implicitDefEqProofs [hLn, hw0, p0, dgs_zero, hz0, d34, hjA, hjL, hd, hR, hjw, hR9, hR7, hR8, hkk, hle, hew, hgq] <;> rfl) ?_
    refine WpO.run tabOk 1 (by simp -implicitDefEqProofs [hLn, hw0, p0, dgs_zero, hz0, d34, hjA, hjL, hd, hR, hjw, hR9, hR7, hR8, hkk, hle, hew, hgq] <;> first | exact ⟨rfl, rfl⟩ | rfl) ?_
    refine WpO.nil ?_
    refine WpC.condD (C ≤ x) (by simp -implicitDefEqProofs [hLn, hw0, p0, dgs_zero, hz0, d34, hjA, hjL, hd, hR, hjw, hR9, hR7, hR8, hkk, hle, hew, hgq]) (fun d53 => ?_) (fun d53 => ?_)
    · refine WpC.skip ?_
      refine WpC.block ?_
      refine WpC.seq ?_
      refine WpC.region ?_
      refine WpO.run tabOk 3 (by simp -implicitDefEqProofs [hLn, hw0, p0, dgs_zero, hz0, d34, hjA, hjL, hd, hR, hjw, hR9, hR7, hR8, hkk, hle, hew, hgq, d53] <;> first | exact ⟨rfl, rfl⟩ | rfl) ?_
      refine WpO.data (by simp) rfl (by simp -implicitDefEqProofs [hLn, hw0, p0, dgs_zero, hz0, d34, hjA, hjL, hd, hR, hjw, hR9, hR7, hR8, hkk, hle, hew, hgq, d53] <;> rfl) (by simp -implicitDefEqProofs [hLn, hw0, p0, dgs_zero, hz0, d34, hjA, hjL, hd, hR, hjw, hR9, hR7, hR8, hkk, hle, hew, hgq, d53] <;> rfl) (by simp -implicitDefEqProofs [hLn, hw0, p0, dgs_zero, hz0, d34, hjA, hjL, hd, hR, hjw, hR9, hR7, hR8, hkk, hle, hew, hgq, d53] <;> rfl) call_41 (by simp) (hls d53) (by rfl) (by simp -implicitDefEqProofs [hLn, hw0, p0, dgs_zero, hz0, d34, hjA, hjL, hd, hR, hjw, hR9, hR7, hR8, hkk, hle, hew, hgq, d53] <;> rfl) ?_
      refine WpO.run tabOk 1 (by simp -implicitDefEqProofs [hLn, hw0, p0, dgs_zero, hz0, d34, hjA, hjL, hd, hR, hjw, hR9, hR7, hR8, hkk, hle, hew, hgq, d53] <;> first | exact ⟨rfl, rfl⟩ | rfl) ?_
      refine WpO.nil ?_
      refine WpC.ops tabOk (r := []) (by simp -implicitDefEqProofs [hLn, hw0, p0, dgs_zero, hz0, d34, hjA, hjL, hd, hR, hjw, hR9, hR7, hR8, hkk, hle, hew, hgq, d53] <;> rfl) rfl ?_
      exact ⟨(x - C, e + 1), by simp only; rw [hi, Nat.add_mul]; omega, by simp; omega, Gh.cut' [12, 16, 3, 10, 11, 13, 14] 3 (by simp -implicitDefEqProofs [hLn, hw0, p0, dgs_zero, hz0, d34, hjA, hjL, hd, hR, hjw, hR9, hR7, hR8, hkk, hle, hew, hgq, d53]) (by simp -implicitDefEqProofs [hLn, hw0, p0, dgs_zero, hz0, d34, hjA, hjL, hd, hR, hjw, hR9, hR7, hR8, hkk, hle, hew, hgq, d53]) rfl (by simp) (by simp) (by simp)⟩
    · have hxe : e = L2 / C ∧ x = L2 % C := by
        rw [hi, Nat.add_mul_div_right _ _ hC0, Nat.add_mul_mod_self_right, Nat.div_eq_of_lt (by omega), Nat.mod_eq_of_lt (by omega)]
        omega
      have hst2 : preN A (k + 1) % C = x := by rw [hP2, hds.2, hxe.2]
      have hqe : quoD A C k = e := by rw [hqd, hds.1, ← hxe.1]; omega
      rw [hqe] at hro
      refine WpC.exit ?_
      refine WpC.ops tabOk (r := []) (by simp -implicitDefEqProofs [hLn, hw0, p0, dgs_zero, hz0, d34, hjA, hjL, hd, hR, hjw, hR9, hR7, hR8, hkk, hle, hew, hgq, d53] <;> rfl) rfl ?_
      refine WpC.ops tabOk (r := []) (by simp -implicitDefEqProofs [hLn, hw0, p0, dgs_zero, hz0, d34, hjA, hjL, hd, hR, hjw, hR9, hR7, hR8, hkk, hle, hew, hgq, d53] <;> rfl) rfl ?_
      exact ⟨k + 1, by omega, by omega, Gh.pick [12, 13, 14, 3, 10, 11] [0, 1, 4] (by simp; rfl) (by simp [hst2]) (by simp) (by simp) (by simp; rfl) (by simp [hro]) (by simp)⟩
  · obtain rfl : L = k := by omega
    rw [pL, hr]
    have hqL : preN A L / C = q := by rw [pL, hq]
    have hsg1 := sgn_gt (2 * r) C
    have hsg2 := sgn_eq (2 * r) C
    obtain ⟨sg, hsgn⟩ : ∃ z, sgnI (((2 * r : Nat) : Int) - C) = z := ⟨_, rfl⟩
    rw [hsgn] at hsg1 hsg2 hs1
    have hrow : (rowF (quoD A C) L).length = L := by simp
    refine WpC.exit ?_
    refine WpC.seq ?_
    refine WpC.gh (Gh.frz [2]) ?_
    refine WpC.gh (Gh.view (t := 13) (x := .sl 2 L) (y := .d (.list 1 (rowF (quoD A C) L))) (by simp) (by simp)) ?_
    refine WpC.val 17 (.d (.bool (decide (q % 2 = 1)))) ?_ ?_
    · refine WpC.region ?_
      refine WpO.run tabOk 4 (by simp -implicitDefEqProofs [hLn, hw0, p0, dgs_zero, hz0, d34, hsg1, hsg2, dgr0] <;> first | exact ⟨rfl, rfl⟩ | rfl) ?_
      refine WpO.splitB 67 (by simp -implicitDefEqProofs [hLn, hw0, p0, dgs_zero, hz0, d34, hsg1, hsg2, dgr0] <;> rfl) (by rfl) (fun g67 => ?_) (fun g67 => ?_)
      · have g67' := g67; first | simp only [dT, dF] at g67' | try simp at g67'
        obtain ⟨l, rfl⟩ : ∃ l, L = l + 1 := ⟨L - 1, by simp at g67; omega⟩
        have hwl : IntKind.i64.wrap ((l : Int)) = l := wrapI (by omega) (by omega)
        have hll : l < l + 1 := by omega
        have hodd : ((quoD A C l).tmod 2 = 1) = (q % 2 = 1) := propext (by
          have h1 := pst l hll
          have h2 := ddig (l + 1 - 1 - l)
          have h3 := (div_step (d := (atL (dgs A) (l + 1 - 1 - l)).toNat) hC0 (show preN A (l + 1) = 10 * preN A l + (atL (dgs A) (l + 1 - 1 - l)).toNat by omega)).1
          rw [hqL] at h3
          unfold quoD
          rw [hqL]
          obtain ⟨E, hE⟩ : ∃ E, (10 * (preN A l % C) + (atL (dgs A) (l + 1 - 1 - l)).toNat) / C = E := ⟨_, rfl⟩
          obtain ⟨F, hF⟩ : ∃ E, preN A l / C = E := ⟨_, rfl⟩
          rw [hE, hF] at h3
          rw [hF, Int.tmod_eq_emod_of_nonneg (by omega)]
          omega)
        refine WpO.run tabOk 10 (by simp -implicitDefEqProofs [hLn, hw0, p0, dgs_zero, hz0, d34, hsg1, hsg2, dgr0, g67, hwl, hll, hodd] <;> first | exact ⟨rfl, rfl⟩ | rfl) ?_
        refine WpO.nil ?_
        refine ⟨rfl, Gh.only 17 15 ?_ (by first | rfl | simp -implicitDefEqProofs [hLn, hw0, p0, dgs_zero, hz0, d34, hsg1, hsg2, dgr0, g67, hwl, hll, hodd]) (by rfl)⟩
        simp -implicitDefEqProofs [hLn, hw0, p0, dgs_zero, hz0, d34, hsg1, hsg2, dgr0, g67, hwl, hll, hodd, g67']
      · have g67' := g67; first | simp only [dT, dF] at g67' | try simp at g67'
        have hk0 : L = 0 := by simpa using g67
        have hq0 : q = 0 := hA0 hk0
        refine WpO.run tabOk 10 (by simp -implicitDefEqProofs [hLn, hw0, p0, dgs_zero, hz0, d34, hsg1, hsg2, dgr0, g67, hq0] <;> first | exact ⟨rfl, rfl⟩ | rfl) ?_
        refine WpO.nil ?_
        refine ⟨rfl, Gh.only 17 15 ?_ (by first | rfl | simp -implicitDefEqProofs [hLn, hw0, p0, dgs_zero, hz0, d34, hsg1, hsg2, dgr0, g67, hq0]) (by rfl)⟩
        simp -implicitDefEqProofs [hLn, hw0, p0, dgs_zero, hz0, d34, hsg1, hsg2, dgr0, g67, hq0, g67']
    refine WpC.seq ?_
    refine WpC.drawn tabOk (by kernel_rfl) 0 (by simp) ?_
    refine DrO.run (fz := []) 1 (by simp -implicitDefEqProofs [hLn, hw0, p0, dgs_zero, hz0, d34, hsg1, hsg2, dgr0] <;> first | exact ⟨rfl, rfl, rfl, rfl⟩ | rfl) ?_
    refine DrO.data (by simp) rfl (by simp -implicitDefEqProofs [hLn, hw0, p0, dgs_zero, hz0, d34, hsg1, hsg2, dgr0] <;> rfl) (by simp -implicitDefEqProofs [hLn, hw0, p0, dgs_zero, hz0, d34, hsg1, hsg2, dgr0] <;> rfl) (by simp -implicitDefEqProofs [hLn, hw0, p0, dgs_zero, hz0, d34, hsg1, hsg2, dgr0] <;> rfl) call_42 (hd1) (by rfl) (by simp -implicitDefEqProofs [hLn, hw0, p0, dgs_zero, hz0, d34, hsg1, hsg2, dgr0] <;> rfl) ?_
    refine DrO.run (fz := []) 2 (by simp -implicitDefEqProofs [hLn, hw0, p0, dgs_zero, hz0, d34, hsg1, hsg2, dgr0] <;> first | exact ⟨rfl, rfl, rfl, rfl⟩ | rfl) ?_
    refine DrO.data (by simp) rfl (by simp -implicitDefEqProofs [hLn, hw0, p0, dgs_zero, hz0, d34, hsg1, hsg2, dgr0] <;> rfl) (by simp -implicitDefEqProofs [hLn, hw0, p0, dgs_zero, hz0, d34, hsg1, hsg2, dgr0] <;> rfl) (by simp -implicitDefEqProofs [hLn, hw0, p0, dgs_zero, hz0, d34, hsg1, hsg2, dgr0] <;> rfl) call_40 (hs1) (by rfl) (by simp -implicitDefEqProofs [hLn, hw0, p0, dgs_zero, hz0, d34, hsg1, hsg2, dgr0] <;> rfl) ?_
    refine DrO.run (fz := []) 1 (by simp -implicitDefEqProofs [hLn, hw0, p0, dgs_zero, hz0, d34, hsg1, hsg2, dgr0] <;> first | exact ⟨rfl, rfl, rfl, rfl⟩ | rfl) ?_
    refine DrO.nil ⟨by kernel_rfl, ?_⟩
    refine WpC.seq ?_
    refine WpC.val 19 (.d (.bool (mo))) ?_ ?_
    · refine WpC.region ?_
      refine WpO.run tabOk 3 (by simp -implicitDefEqProofs [hLn, hw0, p0, dgs_zero, hz0, d34, hsg1, hsg2, dgr0] <;> first | exact ⟨rfl, rfl⟩ | rfl) ?_
      refine WpO.splitB 84 (by simp -implicitDefEqProofs [hLn, hw0, p0, dgs_zero, hz0, d34, hsg1, hsg2, dgr0] <;> rfl) (by rfl) (fun g84 => ?_) (fun g84 => ?_)
      · have g84' := g84; first | simp only [dT, dF] at g84' | try simp at g84'
        refine WpO.run tabOk 5 (by simp -implicitDefEqProofs [hLn, hw0, p0, dgs_zero, hz0, d34, hsg1, hsg2, dgr0, g84] <;> first | exact ⟨rfl, rfl⟩ | rfl) ?_
        refine WpO.splitB 89 (by simp -implicitDefEqProofs [hLn, hw0, p0, dgs_zero, hz0, d34, hsg1, hsg2, dgr0, g84] <;> rfl) (by rfl) (fun g89 => ?_) (fun g89 => ?_)
        · have g89' := g89; first | simp only [dT, dF] at g89' | try simp at g89'
          refine WpO.run tabOk 23 (by simp -implicitDefEqProofs [hLn, hw0, p0, dgs_zero, hz0, d34, hsg1, hsg2, dgr0, g84, g89] <;> first | exact ⟨rfl, rfl⟩ | rfl) ?_
          refine WpO.nil ?_
          refine ⟨rfl, Gh.only 19 33 ?_ (by first | rfl | simp -implicitDefEqProofs [hLn, hw0, p0, dgs_zero, hz0, d34, hsg1, hsg2, dgr0, g84, g89]) (by rfl)⟩
          rw [← hmo]; unfold moreB; simp_all <;> omega
        · have g89' := g89; first | simp only [dT, dF] at g89' | try simp at g89'
          refine WpO.run tabOk 3 (by simp -implicitDefEqProofs [hLn, hw0, p0, dgs_zero, hz0, d34, hsg1, hsg2, dgr0, g84, g89] <;> first | exact ⟨rfl, rfl⟩ | rfl) ?_
          refine WpO.splitB 92 (by simp -implicitDefEqProofs [hLn, hw0, p0, dgs_zero, hz0, d34, hsg1, hsg2, dgr0, g84, g89] <;> rfl) (by rfl) (fun g92 => ?_) (fun g92 => ?_)
          · have g92' := g92; first | simp only [dT, dF] at g92' | try simp at g92'
            refine WpO.run tabOk 5 (by simp -implicitDefEqProofs [hLn, hw0, p0, dgs_zero, hz0, d34, hsg1, hsg2, dgr0, g84, g89, g92] <;> first | exact ⟨rfl, rfl⟩ | rfl) ?_
            refine WpO.splitB 97 (by simp -implicitDefEqProofs [hLn, hw0, p0, dgs_zero, hz0, d34, hsg1, hsg2, dgr0, g84, g89, g92] <;> rfl) (by rfl) (fun g97 => ?_) (fun g97 => ?_)
            · have g97' := g97; first | simp only [dT, dF] at g97' | try simp at g97'
              refine WpO.run tabOk 15 (by simp -implicitDefEqProofs [hLn, hw0, p0, dgs_zero, hz0, d34, hsg1, hsg2, dgr0, g84, g89, g92, g97] <;> first | exact ⟨rfl, rfl⟩ | rfl) ?_
              refine WpO.nil ?_
              refine ⟨rfl, Gh.only 19 35 ?_ (by first | rfl | simp -implicitDefEqProofs [hLn, hw0, p0, dgs_zero, hz0, d34, hsg1, hsg2, dgr0, g84, g89, g92, g97]) (by rfl)⟩
              rw [← hmo]; unfold moreB; simp_all <;> omega
            · have g97' := g97; first | simp only [dT, dF] at g97' | try simp at g97'
              refine WpO.run tabOk 3 (by simp -implicitDefEqProofs [hLn, hw0, p0, dgs_zero, hz0, d34, hsg1, hsg2, dgr0, g84, g89, g92, g97] <;> first | exact ⟨rfl, rfl⟩ | rfl) ?_
              refine WpO.splitB 100 (by simp -implicitDefEqProofs [hLn, hw0, p0, dgs_zero, hz0, d34, hsg1, hsg2, dgr0, g84, g89, g92, g97] <;> rfl) (by rfl) (fun g100 => ?_) (fun g100 => ?_)
              · have g100' := g100; first | simp only [dT, dF] at g100' | try simp at g100'
                refine WpO.run tabOk 3 (by simp -implicitDefEqProofs [hLn, hw0, p0, dgs_zero, hz0, d34, hsg1, hsg2, dgr0, g84, g89, g92, g97, g100] <;> first | exact ⟨rfl, rfl⟩ | rfl) ?_
                refine WpO.splitB 103 (by simp -implicitDefEqProofs [hLn, hw0, p0, dgs_zero, hz0, d34, hsg1, hsg2, dgr0, g84, g89, g92, g97, g100] <;> rfl) (by rfl) (fun g103 => ?_) (fun g103 => ?_)
                · have g103' := g103; first | simp only [dT, dF] at g103' | try simp at g103'
                  refine WpO.run tabOk 9 (by simp -implicitDefEqProofs [hLn, hw0, p0, dgs_zero, hz0, d34, hsg1, hsg2, dgr0, g84, g89, g92, g97, g100, g103] <;> first | exact ⟨rfl, rfl⟩ | rfl) ?_
                  refine WpO.nil ?_
                  refine ⟨rfl, Gh.only 19 37 ?_ (by first | rfl | simp -implicitDefEqProofs [hLn, hw0, p0, dgs_zero, hz0, d34, hsg1, hsg2, dgr0, g84, g89, g92, g97, g100, g103]) (by rfl)⟩
                  rw [← hmo]; unfold moreB; simp_all <;> omega
                · have g103' := g103; first | simp only [dT, dF] at g103' | try simp at g103'
                  refine WpO.run tabOk 3 (by simp -implicitDefEqProofs [hLn, hw0, p0, dgs_zero, hz0, d34, hsg1, hsg2, dgr0, g84, g89, g92, g97, g100, g103] <;> first | exact ⟨rfl, rfl⟩ | rfl) ?_
                  refine WpO.splitB 106 (by simp -implicitDefEqProofs [hLn, hw0, p0, dgs_zero, hz0, d34, hsg1, hsg2, dgr0, g84, g89, g92, g97, g100, g103] <;> rfl) (by rfl) (fun g106 => ?_) (fun g106 => ?_)
                  · have g106' := g106; first | simp only [dT, dF] at g106' | try simp at g106'
                    refine WpO.run tabOk 6 (by simp -implicitDefEqProofs [hLn, hw0, p0, dgs_zero, hz0, d34, hsg1, hsg2, dgr0, g84, g89, g92, g97, g100, g103, g106] <;> first | exact ⟨rfl, rfl⟩ | rfl) ?_
                    refine WpO.nil ?_
                    refine ⟨rfl, Gh.only 19 38 ?_ (by first | rfl | simp -implicitDefEqProofs [hLn, hw0, p0, dgs_zero, hz0, d34, hsg1, hsg2, dgr0, g84, g89, g92, g97, g100, g103, g106]) (by rfl)⟩
                    rw [← hmo]; unfold moreB; simp_all <;> omega
                  · have g106' := g106; first | simp only [dT, dF] at g106' | try simp at g106'
                    refine WpO.run tabOk 6 (by simp -implicitDefEqProofs [hLn, hw0, p0, dgs_zero, hz0, d34, hsg1, hsg2, dgr0, g84, g89, g92, g97, g100, g103, g106] <;> first | exact ⟨rfl, rfl⟩ | rfl) ?_
                    refine WpO.nil ?_
                    refine ⟨rfl, Gh.only 19 38 ?_ (by first | rfl | simp -implicitDefEqProofs [hLn, hw0, p0, dgs_zero, hz0, d34, hsg1, hsg2, dgr0, g84, g89, g92, g97, g100, g103, g106]) (by rfl)⟩
                    rw [← hmo]; unfold moreB; simp_all <;> omega
              · have g100' := g100; first | simp only [dT, dF] at g100' | try simp at g100'
                refine WpO.run tabOk 12 (by simp -implicitDefEqProofs [hLn, hw0, p0, dgs_zero, hz0, d34, hsg1, hsg2, dgr0, g84, g89, g92, g97, g100] <;> first | exact ⟨rfl, rfl⟩ | rfl) ?_
                refine WpO.nil ?_
                refine ⟨rfl, Gh.only 19 36 ?_ (by first | rfl | simp -implicitDefEqProofs [hLn, hw0, p0, dgs_zero, hz0, d34, hsg1, hsg2, dgr0, g84, g89, g92, g97, g100]) (by rfl)⟩
                rw [← hmo]; unfold moreB; simp_all <;> omega
          · have g92' := g92; first | simp only [dT, dF] at g92' | try simp at g92'
            refine WpO.run tabOk 8 (by simp -implicitDefEqProofs [hLn, hw0, p0, dgs_zero, hz0, d34, hsg1, hsg2, dgr0, g84, g89, g92] <;> first | exact ⟨rfl, rfl⟩ | rfl) ?_
            refine WpO.splitB 100 (by simp -implicitDefEqProofs [hLn, hw0, p0, dgs_zero, hz0, d34, hsg1, hsg2, dgr0, g84, g89, g92] <;> rfl) (by rfl) (fun g100 => ?_) (fun g100 => ?_)
            · have g100' := g100; first | simp only [dT, dF] at g100' | try simp at g100'
              refine WpO.run tabOk 3 (by simp -implicitDefEqProofs [hLn, hw0, p0, dgs_zero, hz0, d34, hsg1, hsg2, dgr0, g84, g89, g92, g100] <;> first | exact ⟨rfl, rfl⟩ | rfl) ?_
              refine WpO.splitB 103 (by simp -implicitDefEqProofs [hLn, hw0, p0, dgs_zero, hz0, d34, hsg1, hsg2, dgr0, g84, g89, g92, g100] <;> rfl) (by rfl) (fun g103 => ?_) (fun g103 => ?_)
              · have g103' := g103; first | simp only [dT, dF] at g103' | try simp at g103'
                refine WpO.run tabOk 9 (by simp -implicitDefEqProofs [hLn, hw0, p0, dgs_zero, hz0, d34, hsg1, hsg2, dgr0, g84, g89, g92, g100, g103] <;> first | exact ⟨rfl, rfl⟩ | rfl) ?_
                refine WpO.nil ?_
                refine ⟨rfl, Gh.only 19 36 ?_ (by first | rfl | simp -implicitDefEqProofs [hLn, hw0, p0, dgs_zero, hz0, d34, hsg1, hsg2, dgr0, g84, g89, g92, g100, g103]) (by rfl)⟩
                rw [← hmo]; unfold moreB; simp_all <;> omega
              · have g103' := g103; first | simp only [dT, dF] at g103' | try simp at g103'
                refine WpO.run tabOk 3 (by simp -implicitDefEqProofs [hLn, hw0, p0, dgs_zero, hz0, d34, hsg1, hsg2, dgr0, g84, g89, g92, g100, g103] <;> first | exact ⟨rfl, rfl⟩ | rfl) ?_
                refine WpO.splitB 106 (by simp -implicitDefEqProofs [hLn, hw0, p0, dgs_zero, hz0, d34, hsg1, hsg2, dgr0, g84, g89, g92, g100, g103] <;> rfl) (by rfl) (fun g106 => ?_) (fun g106 => ?_)
                · have g106' := g106; first | simp only [dT, dF] at g106' | try simp at g106'
                  refine WpO.run tabOk 6 (by simp -implicitDefEqProofs [hLn, hw0, p0, dgs_zero, hz0, d34, hsg1, hsg2, dgr0, g84, g89, g92, g100, g103, g106] <;> first | exact ⟨rfl, rfl⟩ | rfl) ?_
                  refine WpO.nil ?_
                  refine ⟨rfl, Gh.only 19 37 ?_ (by first | rfl | simp -implicitDefEqProofs [hLn, hw0, p0, dgs_zero, hz0, d34, hsg1, hsg2, dgr0, g84, g89, g92, g100, g103, g106]) (by rfl)⟩
                  rw [← hmo]; unfold moreB; simp_all <;> omega
                · have g106' := g106; first | simp only [dT, dF] at g106' | try simp at g106'
                  refine WpO.run tabOk 6 (by simp -implicitDefEqProofs [hLn, hw0, p0, dgs_zero, hz0, d34, hsg1, hsg2, dgr0, g84, g89, g92, g100, g103, g106] <;> first | exact ⟨rfl, rfl⟩ | rfl) ?_
                  refine WpO.nil ?_
                  refine ⟨rfl, Gh.only 19 37 ?_ (by first | rfl | simp -implicitDefEqProofs [hLn, hw0, p0, dgs_zero, hz0, d34, hsg1, hsg2, dgr0, g84, g89, g92, g100, g103, g106]) (by rfl)⟩
                  rw [← hmo]; unfold moreB; simp_all <;> omega
            · have g100' := g100; first | simp only [dT, dF] at g100' | try simp at g100'
              refine WpO.run tabOk 12 (by simp -implicitDefEqProofs [hLn, hw0, p0, dgs_zero, hz0, d34, hsg1, hsg2, dgr0, g84, g89, g92, g100] <;> first | exact ⟨rfl, rfl⟩ | rfl) ?_
              refine WpO.nil ?_
              refine ⟨rfl, Gh.only 19 35 ?_ (by first | rfl | simp -implicitDefEqProofs [hLn, hw0, p0, dgs_zero, hz0, d34, hsg1, hsg2, dgr0, g84, g89, g92, g100]) (by rfl)⟩
              rw [← hmo]; unfold moreB; simp_all <;> omega
      · have g84' := g84; first | simp only [dT, dF] at g84' | try simp at g84'
        refine WpO.run tabOk 8 (by simp -implicitDefEqProofs [hLn, hw0, p0, dgs_zero, hz0, d34, hsg1, hsg2, dgr0, g84] <;> first | exact ⟨rfl, rfl⟩ | rfl) ?_
        refine WpO.splitB 92 (by simp -implicitDefEqProofs [hLn, hw0, p0, dgs_zero, hz0, d34, hsg1, hsg2, dgr0, g84] <;> rfl) (by rfl) (fun g92 => ?_) (fun g92 => ?_)
        · have g92' := g92; first | simp only [dT, dF] at g92' | try simp at g92'
          refine WpO.run tabOk 5 (by simp -implicitDefEqProofs [hLn, hw0, p0, dgs_zero, hz0, d34, hsg1, hsg2, dgr0, g84, g92] <;> first | exact ⟨rfl, rfl⟩ | rfl) ?_
          refine WpO.splitB 97 (by simp -implicitDefEqProofs [hLn, hw0, p0, dgs_zero, hz0, d34, hsg1, hsg2, dgr0, g84, g92] <;> rfl) (by rfl) (fun g97 => ?_) (fun g97 => ?_)
          · have g97' := g97; first | simp only [dT, dF] at g97' | try simp at g97'
            refine WpO.run tabOk 15 (by simp -implicitDefEqProofs [hLn, hw0, p0, dgs_zero, hz0, d34, hsg1, hsg2, dgr0, g84, g92, g97] <;> first | exact ⟨rfl, rfl⟩ | rfl) ?_
            refine WpO.nil ?_
            refine ⟨rfl, Gh.only 19 34 ?_ (by first | rfl | simp -implicitDefEqProofs [hLn, hw0, p0, dgs_zero, hz0, d34, hsg1, hsg2, dgr0, g84, g92, g97]) (by rfl)⟩
            rw [← hmo]; unfold moreB; simp_all <;> omega
          · have g97' := g97; first | simp only [dT, dF] at g97' | try simp at g97'
            refine WpO.run tabOk 3 (by simp -implicitDefEqProofs [hLn, hw0, p0, dgs_zero, hz0, d34, hsg1, hsg2, dgr0, g84, g92, g97] <;> first | exact ⟨rfl, rfl⟩ | rfl) ?_
            refine WpO.splitB 100 (by simp -implicitDefEqProofs [hLn, hw0, p0, dgs_zero, hz0, d34, hsg1, hsg2, dgr0, g84, g92, g97] <;> rfl) (by rfl) (fun g100 => ?_) (fun g100 => ?_)
            · have g100' := g100; first | simp only [dT, dF] at g100' | try simp at g100'
              refine WpO.run tabOk 3 (by simp -implicitDefEqProofs [hLn, hw0, p0, dgs_zero, hz0, d34, hsg1, hsg2, dgr0, g84, g92, g97, g100] <;> first | exact ⟨rfl, rfl⟩ | rfl) ?_
              refine WpO.splitB 103 (by simp -implicitDefEqProofs [hLn, hw0, p0, dgs_zero, hz0, d34, hsg1, hsg2, dgr0, g84, g92, g97, g100] <;> rfl) (by rfl) (fun g103 => ?_) (fun g103 => ?_)
              · have g103' := g103; first | simp only [dT, dF] at g103' | try simp at g103'
                refine WpO.run tabOk 9 (by simp -implicitDefEqProofs [hLn, hw0, p0, dgs_zero, hz0, d34, hsg1, hsg2, dgr0, g84, g92, g97, g100, g103] <;> first | exact ⟨rfl, rfl⟩ | rfl) ?_
                refine WpO.nil ?_
                refine ⟨rfl, Gh.only 19 36 ?_ (by first | rfl | simp -implicitDefEqProofs [hLn, hw0, p0, dgs_zero, hz0, d34, hsg1, hsg2, dgr0, g84, g92, g97, g100, g103]) (by rfl)⟩
                rw [← hmo]; unfold moreB; simp_all <;> omega
              · have g103' := g103; first | simp only [dT, dF] at g103' | try simp at g103'
                refine WpO.run tabOk 3 (by simp -implicitDefEqProofs [hLn, hw0, p0, dgs_zero, hz0, d34, hsg1, hsg2, dgr0, g84, g92, g97, g100, g103] <;> first | exact ⟨rfl, rfl⟩ | rfl) ?_
                refine WpO.splitB 106 (by simp -implicitDefEqProofs [hLn, hw0, p0, dgs_zero, hz0, d34, hsg1, hsg2, dgr0, g84, g92, g97, g100, g103] <;> rfl) (by rfl) (fun g106 => ?_) (fun g106 => ?_)
                · have g106' := g106; first | simp only [dT, dF] at g106' | try simp at g106'
                  refine WpO.run tabOk 6 (by simp -implicitDefEqProofs [hLn, hw0, p0, dgs_zero, hz0, d34, hsg1, hsg2, dgr0, g84, g92, g97, g100, g103, g106] <;> first | exact ⟨rfl, rfl⟩ | rfl) ?_
                  refine WpO.nil ?_
                  refine ⟨rfl, Gh.only 19 37 ?_ (by first | rfl | simp -implicitDefEqProofs [hLn, hw0, p0, dgs_zero, hz0, d34, hsg1, hsg2, dgr0, g84, g92, g97, g100, g103, g106]) (by rfl)⟩
                  rw [← hmo]; unfold moreB; simp_all <;> omega
                · have g106' := g106; first | simp only [dT, dF] at g106' | try simp at g106'
                  refine WpO.run tabOk 6 (by simp -implicitDefEqProofs [hLn, hw0, p0, dgs_zero, hz0, d34, hsg1, hsg2, dgr0, g84, g92, g97, g100, g103, g106] <;> first | exact ⟨rfl, rfl⟩ | rfl) ?_
                  refine WpO.nil ?_
                  refine ⟨rfl, Gh.only 19 37 ?_ (by first | rfl | simp -implicitDefEqProofs [hLn, hw0, p0, dgs_zero, hz0, d34, hsg1, hsg2, dgr0, g84, g92, g97, g100, g103, g106]) (by rfl)⟩
                  rw [← hmo]; unfold moreB; simp_all <;> omega
            · have g100' := g100; first | simp only [dT, dF] at g100' | try simp at g100'
              refine WpO.run tabOk 12 (by simp -implicitDefEqProofs [hLn, hw0, p0, dgs_zero, hz0, d34, hsg1, hsg2, dgr0, g84, g92, g97, g100] <;> first | exact ⟨rfl, rfl⟩ | rfl) ?_
              refine WpO.nil ?_
              refine ⟨rfl, Gh.only 19 35 ?_ (by first | rfl | simp -implicitDefEqProofs [hLn, hw0, p0, dgs_zero, hz0, d34, hsg1, hsg2, dgr0, g84, g92, g97, g100]) (by rfl)⟩
              rw [← hmo]; unfold moreB; simp_all <;> omega
        · have g92' := g92; first | simp only [dT, dF] at g92' | try simp at g92'
          refine WpO.run tabOk 8 (by simp -implicitDefEqProofs [hLn, hw0, p0, dgs_zero, hz0, d34, hsg1, hsg2, dgr0, g84, g92] <;> first | exact ⟨rfl, rfl⟩ | rfl) ?_
          refine WpO.splitB 100 (by simp -implicitDefEqProofs [hLn, hw0, p0, dgs_zero, hz0, d34, hsg1, hsg2, dgr0, g84, g92] <;> rfl) (by rfl) (fun g100 => ?_) (fun g100 => ?_)
          · have g100' := g100; first | simp only [dT, dF] at g100' | try simp at g100'
            refine WpO.run tabOk 3 (by simp -implicitDefEqProofs [hLn, hw0, p0, dgs_zero, hz0, d34, hsg1, hsg2, dgr0, g84, g92, g100] <;> first | exact ⟨rfl, rfl⟩ | rfl) ?_
            refine WpO.splitB 103 (by simp -implicitDefEqProofs [hLn, hw0, p0, dgs_zero, hz0, d34, hsg1, hsg2, dgr0, g84, g92, g100] <;> rfl) (by rfl) (fun g103 => ?_) (fun g103 => ?_)
            · have g103' := g103; first | simp only [dT, dF] at g103' | try simp at g103'
              refine WpO.run tabOk 9 (by simp -implicitDefEqProofs [hLn, hw0, p0, dgs_zero, hz0, d34, hsg1, hsg2, dgr0, g84, g92, g100, g103] <;> first | exact ⟨rfl, rfl⟩ | rfl) ?_
              refine WpO.nil ?_
              refine ⟨rfl, Gh.only 19 35 ?_ (by first | rfl | simp -implicitDefEqProofs [hLn, hw0, p0, dgs_zero, hz0, d34, hsg1, hsg2, dgr0, g84, g92, g100, g103]) (by rfl)⟩
              rw [← hmo]; unfold moreB; simp_all <;> omega
            · have g103' := g103; first | simp only [dT, dF] at g103' | try simp at g103'
              refine WpO.run tabOk 3 (by simp -implicitDefEqProofs [hLn, hw0, p0, dgs_zero, hz0, d34, hsg1, hsg2, dgr0, g84, g92, g100, g103] <;> first | exact ⟨rfl, rfl⟩ | rfl) ?_
              refine WpO.splitB 106 (by simp -implicitDefEqProofs [hLn, hw0, p0, dgs_zero, hz0, d34, hsg1, hsg2, dgr0, g84, g92, g100, g103] <;> rfl) (by rfl) (fun g106 => ?_) (fun g106 => ?_)
              · have g106' := g106; first | simp only [dT, dF] at g106' | try simp at g106'
                refine WpO.run tabOk 6 (by simp -implicitDefEqProofs [hLn, hw0, p0, dgs_zero, hz0, d34, hsg1, hsg2, dgr0, g84, g92, g100, g103, g106] <;> first | exact ⟨rfl, rfl⟩ | rfl) ?_
                refine WpO.nil ?_
                refine ⟨rfl, Gh.only 19 36 ?_ (by first | rfl | simp -implicitDefEqProofs [hLn, hw0, p0, dgs_zero, hz0, d34, hsg1, hsg2, dgr0, g84, g92, g100, g103, g106]) (by rfl)⟩
                rw [← hmo]; unfold moreB; simp_all <;> omega
              · have g106' := g106; first | simp only [dT, dF] at g106' | try simp at g106'
                refine WpO.run tabOk 6 (by simp -implicitDefEqProofs [hLn, hw0, p0, dgs_zero, hz0, d34, hsg1, hsg2, dgr0, g84, g92, g100, g103, g106] <;> first | exact ⟨rfl, rfl⟩ | rfl) ?_
                refine WpO.nil ?_
                refine ⟨rfl, Gh.only 19 36 ?_ (by first | rfl | simp -implicitDefEqProofs [hLn, hw0, p0, dgs_zero, hz0, d34, hsg1, hsg2, dgr0, g84, g92, g100, g103, g106]) (by rfl)⟩
                rw [← hmo]; unfold moreB; simp_all <;> omega
          · have g100' := g100; first | simp only [dT, dF] at g100' | try simp at g100'
            refine WpO.run tabOk 12 (by simp -implicitDefEqProofs [hLn, hw0, p0, dgs_zero, hz0, d34, hsg1, hsg2, dgr0, g84, g92, g100] <;> first | exact ⟨rfl, rfl⟩ | rfl) ?_
            refine WpO.nil ?_
            refine ⟨rfl, Gh.only 19 34 ?_ (by first | rfl | simp -implicitDefEqProofs [hLn, hw0, p0, dgs_zero, hz0, d34, hsg1, hsg2, dgr0, g84, g92, g100]) (by rfl)⟩
            rw [← hmo]; unfold moreB; simp_all <;> omega
    refine WpC.seq (WpC.ops tabOk (r := []) (by simp -implicitDefEqProofs [hLn, hw0, p0, dgs_zero, hz0, d34, hsg1, hsg2, dgr0] <;> rfl) rfl ?_)
    refine WpC.seq ?_
    have hq0 : qN A C 0 = 0 := by unfold qN; rw [p0]; simp
    refine WpC.seq (WpC.ops tabOk (r := []) (by simp -implicitDefEqProofs [hLn, hw0, p0, dgs_zero, hz0, d34, hsg1, hsg2, dgr0, hq0] <;> rfl) rfl ?_)
    refine WpC.block ?_
    refine WpC.loopK [10, 11, 13, 19] [20, 21] (L) (() : Unit) (fun k _ => [(20, .d (dI (qN A C k : Nat))), (21, .d (.int .i64 k))]) (fun k _ => [.cells 65 [.d (.bool pm), .d (.list 1 ((dgs A).map dI))], .cells 65 [.d (.bool cm), .d (.list 1 ((dgs C).map dI))]]) (fun k _ => qN A C k ≤ 9223372036854775807) (by simp -implicitDefEqProofs [hLn, hw0, p0, dgs_zero, hz0, d34, hsg1, hsg2, dgr0, hq0] <;> rfl) (Gh.cut' [20, 21, 10, 11, 13, 19] 2 (by simp -implicitDefEqProofs [hLn, hw0, p0, dgs_zero, hz0, d34, hsg1, hsg2, dgr0, hq0]) (by simp -implicitDefEqProofs [hLn, hw0, p0, dgs_zero, hz0, d34, hsg1, hsg2, dgr0, hq0]) rfl (by simp) (by simp) (by simp)) (by rw [hq0]; omega) ?_
    rintro k ⟨⟩ hk hi
    simp only [List.cons_append, List.nil_append]
    refine WpC.seq ?_
    refine WpC.seq (WpC.ops tabOk (r := []) (by simp -implicitDefEqProofs [hLn, hw0, p0, dgs_zero, hz0, d34, hsg1, hsg2, dgr0, hq0] <;> rfl) rfl ?_)
    refine WpC.condD (k < L) (by simp -implicitDefEqProofs [hLn, hw0, p0, dgs_zero, hz0, d34, hsg1, hsg2, dgr0, hq0] <;> omega) (fun hlt => ?_) (fun hge => ?_)
    · refine WpC.skip ?_
      have hkr : k < (rowF (quoD A C) L).length := by omega
      have h1 := pst k hlt
      have h2 := ddig (L - 1 - k)
      obtain ⟨dn, hdn⟩ : ∃ n : Nat, atL (dgs A) (L - 1 - k) = n := ⟨(atL (dgs A) (L - 1 - k)).toNat, by omega⟩
      have h3 := (div_step (d := dn) hC0 (show preN A (k + 1) = 10 * preN A k + dn by omega)).1
      have h4 : qN A C (k + 1) ≤ q := by rw [← hqL]; exact Nat.div_le_div_right (pmo _ _ hlt)
      have hqd : quoD A C k = (qN A C (k + 1) : Int) - 10 * (qN A C k : Int) := rfl
      have h3 : qN A C (k + 1) = 10 * qN A C k + (10 * (preN A k % C) + dn) / C := h3
      have hE9 : (10 * (preN A k % C) + dn) / C ≤ 9 := by
        have hm := Nat.mod_lt (preN A k) hC0
        have : 10 * (preN A k % C) + dn < 10 * C := by omega
        exact Nat.le_of_lt_succ (Nat.div_lt_of_lt_mul (by omega))
      obtain ⟨E, hE⟩ : ∃ E, (10 * (preN A k % C) + dn) / C = E := ⟨_, rfl⟩
      obtain ⟨F, hF⟩ : ∃ E, qN A C k = E := ⟨_, rfl⟩
      obtain ⟨F2, hF2⟩ : ∃ E, qN A C (k + 1) = E := ⟨_, rfl⟩
      rw [hF2, hF] at hqd
      rw [hE] at h3 hE9
      rw [hF2, hF] at h3
      rw [hF2] at h4
      have hqE : quoD A C k = E := by omega
      have hi2 : F ≤ 9223372036854775807 := by rw [← hF]; exact hi
      have hgt : (rowF (quoD A C) L)[k]? = some (dI E) := by rw [rowF_get hlt, hqE]
      rw [hF]
      have w1 : IntKind.i64.wrap (9223372036854775807 - (E : Int)) = 9223372036854775807 - E := wrapI (by omega) (by omega)
      have w2 : ((9223372036854775807 - (E : Int)).tdiv 10 < F) = (9223372036854775807 < F2) := propext (by
        rw [Int.tdiv_eq_ediv_of_nonneg (by omega)]; omega)
      have w4 : IntKind.i64.wrap ((9223372036854775807 - (E : Int)).tdiv 10) = (9223372036854775807 - (E : Int)).tdiv 10 := by
        rw [Int.tdiv_eq_ediv_of_nonneg (by omega)]; exact wrapI (by omega) (by omega)
      have hkw : IntKind.i64.wrap ((k : Int) + 1) = k + 1 := wrapI (by omega) (by omega)
      refine WpC.seq ?_
      refine WpC.block ?_
      refine WpC.seq ?_
      refine WpC.seq (WpC.ops tabOk (r := []) (by simp -implicitDefEqProofs [hLn, hw0, p0, dgs_zero, hz0, d34, hsg1, hsg2, dgr0, hq0, hlt, hqE, w1, w2, w4, hkw] <;> rfl) rfl ?_)
      refine WpC.condD (9223372036854775807 < F2) (by simp -implicitDefEqProofs [hLn, hw0, p0, dgs_zero, hz0, d34, hsg1, hsg2, dgr0, hq0, hlt, hqE, w1, w2, w4, hkw]) (fun d125 => ?_) (fun d125 => ?_)
      · refine WpC.seq (WpC.ops tabOk (r := []) (by simp -implicitDefEqProofs [hLn, hw0, p0, dgs_zero, hz0, d34, hsg1, hsg2, dgr0, hq0, hlt, hqE, w1, w2, w4, hkw, d125] <;> rfl) rfl ?_)
        refine WpC.ret ?_
        try simp only [blockQ, seqQ]
        refine retD_i (by simp -implicitDefEqProofs [hLn, hw0, p0, dgs_zero, hz0, d34, hsg1, hsg2, dgr0, hq0, hlt, hqE, w1, w2, w4, hkw, d125] <;> rfl) (by simp -implicitDefEqProofs [hLn, hw0, p0, dgs_zero, hz0, d34, hsg1, hsg2, dgr0, hq0, hlt, hqE, w1, w2, w4, hkw, d125] <;> rfl) ?_
        have hno : ¬ q + (if mo = true then 1 else 0) ≤ 9223372036854775807 := by omega
        simp [hno]
      · have w5 : IntKind.i64.wrap (10 * (F : Int)) = 10 * F := wrapI (by omega) (by omega)
        have w6 : IntKind.i64.wrap (10 * (F : Int) + E) = F2 := by rw [wrapI (by omega) (by omega)]; omega
        refine WpC.skip ?_
        refine WpC.ops tabOk (r := []) (by simp -implicitDefEqProofs [hLn, hw0, p0, dgs_zero, hz0, d34, hsg1, hsg2, dgr0, hq0, hlt, hqE, w1, w2, w4, hkw, d125, w5, w6] <;> rfl) rfl ?_
        refine WpC.ops tabOk (r := []) (by simp -implicitDefEqProofs [hLn, hw0, p0, dgs_zero, hz0, d34, hsg1, hsg2, dgr0, hq0, hlt, hqE, w1, w2, w4, hkw, d125, w5, w6] <;> rfl) rfl ?_
        exact ⟨hlt, (), by rw [hF2]; omega, Gh.cut' [20, 21, 10, 11, 13, 19] 2 (by simp -implicitDefEqProofs [hLn, hw0, p0, dgs_zero, hz0, d34, hsg1, hsg2, dgr0, hq0, hlt, hqE, w1, w2, w4, hkw, d125, w5, w6, hF2]) (by simp -implicitDefEqProofs [hLn, hw0, p0, dgs_zero, hz0, d34, hsg1, hsg2, dgr0, hq0, hlt, hqE, w1, w2, w4, hkw, d125, w5, w6, hF2]) rfl (by simp) (by simp) (by simp)⟩
    · refine WpC.exit ?_
      obtain rfl : L = k := by omega
      have hqL2 : qN A C L = q := hqL
      rw [hqL2] at hi ⊢
      have hqm : q ≤ 9223372036854775807 := hi
      have hqw : IntKind.i64.wrap ((q : Int) + 1) = (q : Int) + 1 ∨ q = 9223372036854775807 := by
        by_cases h : q = 9223372036854775807
        · exact .inr h
        · exact .inl (wrapI (by omega) (by omega))
      refine WpC.seq ?_
      refine WpC.seq (WpC.ops tabOk (r := []) (by simp -implicitDefEqProofs [hLn, hw0, p0, dgs_zero, hz0, d34, hsg1, hsg2, dgr0, hq0] <;> rfl) rfl ?_)
      refine WpC.condR (by simp -implicitDefEqProofs [hLn, hw0, p0, dgs_zero, hz0, d34, hsg1, hsg2, dgr0, hq0] <;> rfl) (by rfl) (fun c133 => ?_) (fun c133 => ?_)
      · have c133' := c133; first | simp only [dT, dF] at c133' | try simp at c133'
        refine WpC.seq ?_
        refine WpC.seq (WpC.ops tabOk (r := []) (by simp -implicitDefEqProofs [hLn, hw0, p0, dgs_zero, hz0, d34, hsg1, hsg2, dgr0, hq0, c133] <;> rfl) rfl ?_)
        refine WpC.condD ((q : Int) = 9223372036854775807) (by simp -implicitDefEqProofs [hLn, hw0, p0, dgs_zero, hz0, d34, hsg1, hsg2, dgr0, hq0, c133]) (fun d135 => ?_) (fun d135 => ?_)
        · refine WpC.seq (WpC.ops tabOk (r := []) (by simp -implicitDefEqProofs [hLn, hw0, p0, dgs_zero, hz0, d34, hsg1, hsg2, dgr0, hq0, c133, d135] <;> rfl) rfl ?_)
          refine WpC.ret ?_
          try simp only [blockQ, seqQ]
          refine retD_i (by simp -implicitDefEqProofs [hLn, hw0, p0, dgs_zero, hz0, d34, hsg1, hsg2, dgr0, hq0, c133, d135] <;> rfl) (by simp -implicitDefEqProofs [hLn, hw0, p0, dgs_zero, hz0, d34, hsg1, hsg2, dgr0, hq0, c133, d135] <;> rfl) ?_
          have hno : ¬ q + (if mo = true then 1 else 0) ≤ 9223372036854775807 := by rw [c133, if_pos rfl]; omega
          simp [hno]
        · have hyes : q + (if mo = true then 1 else 0) ≤ 9223372036854775807 := by rw [c133, if_pos rfl]; omega
          have hw7 : IntKind.i64.wrap ((q : Int) + 1) = (q : Int) + 1 := wrapI (by omega) (by omega)
          have hw8 : IntKind.i64.wrap (-((q : Int) + 1)) = -((q : Int) + 1) := wrapI (by omega) (by omega)
          refine WpC.skip ?_
          refine WpC.ops tabOk (r := []) (by simp -implicitDefEqProofs [hLn, hw0, p0, dgs_zero, hz0, d34, hsg1, hsg2, dgr0, hq0, c133, d135, hw7, hw8] <;> rfl) rfl ?_
          refine WpC.seq ?_
          refine WpC.seq (WpC.ops tabOk (r := []) (by simp -implicitDefEqProofs [hLn, hw0, p0, dgs_zero, hz0, d34, hsg1, hsg2, dgr0, hq0, c133, d135, hw7, hw8] <;> rfl) rfl ?_)
          refine WpC.condR (by simp -implicitDefEqProofs [hLn, hw0, p0, dgs_zero, hz0, d34, hsg1, hsg2, dgr0, hq0, c133, d135, hw7, hw8] <;> rfl) (by rfl) (fun c142 => ?_) (fun c142 => ?_)
          · have c142' := c142; first | simp only [dT, dF] at c142' | try simp at c142'
            refine WpC.ops tabOk (r := []) (by simp -implicitDefEqProofs [hLn, hw0, p0, dgs_zero, hz0, d34, hsg1, hsg2, dgr0, hq0, c133, d135, hw7, hw8, c142] <;> rfl) rfl ?_
            refine WpC.seq (WpC.ops tabOk (r := []) (by simp -implicitDefEqProofs [hLn, hw0, p0, dgs_zero, hz0, d34, hsg1, hsg2, dgr0, hq0, c133, d135, hw7, hw8, c142] <;> rfl) rfl ?_)
            refine WpC.ret ?_
            try simp only [blockQ, seqQ]
            refine retD_i (by simp -implicitDefEqProofs [hLn, hw0, p0, dgs_zero, hz0, d34, hsg1, hsg2, dgr0, hq0, c133, d135, hw7, hw8, c142] <;> rfl) (by simp -implicitDefEqProofs [hLn, hw0, p0, dgs_zero, hz0, d34, hsg1, hsg2, dgr0, hq0, c133, d135, hw7, hw8, c142] <;> rfl) ?_
            have h10 := hyes
            simp [c133] at h10
            simp [h10, c133, c142']
          · have c142' := c142; first | simp only [dT, dF] at c142' | try simp at c142'
            refine WpC.skip ?_
            refine WpC.seq (WpC.ops tabOk (r := []) (by simp -implicitDefEqProofs [hLn, hw0, p0, dgs_zero, hz0, d34, hsg1, hsg2, dgr0, hq0, c133, d135, hw7, hw8, c142] <;> rfl) rfl ?_)
            refine WpC.ret ?_
            try simp only [blockQ, seqQ]
            refine retD_i (by simp -implicitDefEqProofs [hLn, hw0, p0, dgs_zero, hz0, d34, hsg1, hsg2, dgr0, hq0, c133, d135, hw7, hw8, c142] <;> rfl) (by simp -implicitDefEqProofs [hLn, hw0, p0, dgs_zero, hz0, d34, hsg1, hsg2, dgr0, hq0, c133, d135, hw7, hw8, c142] <;> rfl) ?_
            have h10 := hyes
            simp [c133] at h10
            simp [h10, c133, c142']
      · have c133' := c133; first | simp only [dT, dF] at c133' | try simp at c133'
        have hyes : q + (if mo = true then 1 else 0) ≤ 9223372036854775807 := by rw [c133, if_neg (by decide)]; omega
        have hw8 : IntKind.i64.wrap (-(q : Int)) = -(q : Int) := wrapI (by omega) (by omega)
        refine WpC.skip ?_
        refine WpC.seq ?_
        refine WpC.seq (WpC.ops tabOk (r := []) (by simp -implicitDefEqProofs [hLn, hw0, p0, dgs_zero, hz0, d34, hsg1, hsg2, dgr0, hq0, c133, hw8] <;> rfl) rfl ?_)
        refine WpC.condR (by simp -implicitDefEqProofs [hLn, hw0, p0, dgs_zero, hz0, d34, hsg1, hsg2, dgr0, hq0, c133, hw8] <;> rfl) (by rfl) (fun c142 => ?_) (fun c142 => ?_)
        · have c142' := c142; first | simp only [dT, dF] at c142' | try simp at c142'
          refine WpC.ops tabOk (r := []) (by simp -implicitDefEqProofs [hLn, hw0, p0, dgs_zero, hz0, d34, hsg1, hsg2, dgr0, hq0, c133, hw8, c142] <;> rfl) rfl ?_
          refine WpC.seq (WpC.ops tabOk (r := []) (by simp -implicitDefEqProofs [hLn, hw0, p0, dgs_zero, hz0, d34, hsg1, hsg2, dgr0, hq0, c133, hw8, c142] <;> rfl) rfl ?_)
          refine WpC.ret ?_
          try simp only [blockQ, seqQ]
          refine retD_i (by simp -implicitDefEqProofs [hLn, hw0, p0, dgs_zero, hz0, d34, hsg1, hsg2, dgr0, hq0, c133, hw8, c142] <;> rfl) (by simp -implicitDefEqProofs [hLn, hw0, p0, dgs_zero, hz0, d34, hsg1, hsg2, dgr0, hq0, c133, hw8, c142] <;> rfl) ?_
          have h10 := hyes
          simp [c133] at h10
          simp [h10, c133, c142']
        · have c142' := c142; first | simp only [dT, dF] at c142' | try simp at c142'
          refine WpC.skip ?_
          refine WpC.seq (WpC.ops tabOk (r := []) (by simp -implicitDefEqProofs [hLn, hw0, p0, dgs_zero, hz0, d34, hsg1, hsg2, dgr0, hq0, c133, hw8, c142] <;> rfl) rfl ?_)
          refine WpC.ret ?_
          try simp only [blockQ, seqQ]
          refine retD_i (by simp -implicitDefEqProofs [hLn, hw0, p0, dgs_zero, hz0, d34, hsg1, hsg2, dgr0, hq0, c133, hw8, c142] <;> rfl) (by simp -implicitDefEqProofs [hLn, hw0, p0, dgs_zero, hz0, d34, hsg1, hsg2, dgr0, hq0, c133, hw8, c142] <;> rfl) ?_
          have h10 := hyes
          simp [c133] at h10
          simp [h10, c133, c142']
end Go.Proofs.Ytfbpcjkhgiickaa.Pay
