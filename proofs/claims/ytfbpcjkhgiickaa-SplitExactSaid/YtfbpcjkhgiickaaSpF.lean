/- Products and quotients of 128 bits. No statement of the seed is proved here. -/
import Derived.Test.YtfbpcjkhgiickaaPayP
import Derived.Lib.Mul64
import Derived.Laws.Bits64b
namespace Go.Proofs.Ytfbpcjkhgiickaa.Pay
open Go Go.RowKit
set_option linter.unusedVariables false
set_option linter.unusedSimpArgs false

theorem wrapU {n : Int} (h1 : 0 ≤ n) (h2 : n < 18446744073709551616) : IntKind.u64.wrap n = n := by rw [IntKind.wrap_u64]; omega
theorem wrapUm (a : Nat) : IntKind.u64.wrap (a : Int) = ((a % 18446744073709551616 : Nat) : Int) := by rw [IntKind.wrap_u64]; omega
theorem maskU (a : Nat) (ha : a < 18446744073709551616) : bits .and .u64 (a : Int) 4294967295 = ((a % 4294967296 : Nat) : Int) := by
  have h := bits_and_u64_nat a 4294967295 ha (by omega)
  have e : a &&& 4294967295 = a % 4294967296 := Nat.and_two_pow_sub_one_eq_mod a 32
  rw [e] at h
  exact h
theorem minU {k : Nat} (h : k ≤ 64) : min k IntKind.u64.bits = k := by show min k 64 = k; omega
theorem shrU (a : Nat) {k : Nat} (h : k ≤ 64) : (a : Int).fdiv (2 ^ min k IntKind.u64.bits) = ((a / 2 ^ k : Nat) : Int) := by
  rw [minU h, Int.fdiv_eq_ediv_of_nonneg _ (Int.le_of_lt (Int.pow_pos (by decide)))]
  rw [show (2 : Int) ^ k = ((2 ^ k : Nat) : Int) from by simp, ← Int.natCast_ediv]
theorem shlU (a : Nat) {k : Nat} (h : k ≤ 64) : IntKind.u64.wrap ((a : Int) * 2 ^ min k IntKind.u64.bits) = ((a * 2 ^ k % 18446744073709551616 : Nat) : Int) := by
  rw [minU h, show (2 : Int) ^ k = ((2 ^ k : Nat) : Int) from by simp, ← Int.natCast_mul, wrapUm]
theorem sh32 (a : Nat) : (a : Int).fdiv (2 ^ min 32 IntKind.u64.bits) = ((a / 4294967296 : Nat) : Int) := shrU a (by decide)
theorem mulU {a b p : Nat} (hp : a * b = p) (h : p < 18446744073709551616) : IntKind.u64.wrap ((a : Int) * b) = (p : Int) := by
  rw [← Int.natCast_mul, hp, wrapUm]; omega
theorem addU {a b p : Nat} (hp : a + b = p) (h : p < 18446744073709551616) : IntKind.u64.wrap ((a : Int) + b) = (p : Int) := by
  rw [← Int.natCast_add, hp, wrapUm]; omega

theorem size_ok (n : Int) (h : -9223372036854775808 ≤ n ∧ n ≤ 9223372036854775807) : Gives Try.prog 30 [.d (dI n)] (.d (.int .u64 n.natAbs)) := by
  have hw1 : n < 0 → IntKind.u64.wrap (-(IntKind.u64.wrap n)) = n.natAbs := fun h0 => by rw [IntKind.wrap_u64, IntKind.wrap_u64]; omega
  have hw2 : ¬ n < 0 → IntKind.u64.wrap n = n.natAbs := fun h0 => by rw [IntKind.wrap_u64]; omega
  refine Gives.enter tabOk Try.func30 rfl (by show 1 ≤ 10; decide) ?_
  simp only [Try.f30]
  refine WpC.seq (WpC.ops tabOk (r := []) (by simp -implicitDefEqProofs <;> rfl) rfl ?_)
  refine WpC.seq ?_
  refine WpC.seq (WpC.ops tabOk (r := []) (by simp -implicitDefEqProofs <;> rfl) rfl ?_)
  refine WpC.condD (n < 0) (by simp -implicitDefEqProofs) (fun d4 => ?_) (fun d4 => ?_)
  · have hw := hw1 d4
    refine WpC.seq (WpC.ops tabOk (r := []) (by simp -implicitDefEqProofs [d4, hw] <;> rfl) rfl ?_)
    refine WpC.ret ?_
    try simp only [blockQ, seqQ]
    refine retD_i (by simp -implicitDefEqProofs [d4, hw] <;> rfl) (by simp -implicitDefEqProofs [d4, hw] <;> rfl) ?_
    simp -implicitDefEqProofs [d4, hw]
  · have hw := hw2 d4
    refine WpC.skip ?_
    refine WpC.seq (WpC.ops tabOk (r := []) (by simp -implicitDefEqProofs [d4, hw] <;> rfl) rfl ?_)
    refine WpC.ret ?_
    try simp only [blockQ, seqQ]
    refine retD_i (by simp -implicitDefEqProofs [d4, hw] <;> rfl) (by simp -implicitDefEqProofs [d4, hw] <;> rfl) ?_
    simp -implicitDefEqProofs [d4, hw]

theorem mul64_ok (x y : Nat) (hx : x < 18446744073709551616) (hy : y < 18446744073709551616) :
    Gives Try.prog 29 [.d (.int .u64 x), .d (.int .u64 y)] (.tup [.d (.int .u64 ((x * y / 18446744073709551616 : Nat) : Int)), .d (.int .u64 ((x * y % 18446744073709551616 : Nat) : Int))]) := by
  obtain ⟨bd, bt, bw, hhi⟩ := Go.Lib.mul64_hi x y hx hy
  have hlo : IntKind.u64.wrap ((x : Int) * y) = ((x * y % 18446744073709551616 : Nat) : Int) := by rw [← Int.natCast_mul, wrapUm]
  have m1 := maskU x hx
  have m2 := maskU y hy
  have s1 := sh32 x
  have s2 := sh32 y
  rw [← hhi]
  obtain ⟨x0, hx0⟩ : ∃ q, x % 4294967296 = q := ⟨_, rfl⟩
  obtain ⟨x1, hx1⟩ : ∃ q, x / 4294967296 = q := ⟨_, rfl⟩
  obtain ⟨y0, hy0⟩ : ∃ q, y % 4294967296 = q := ⟨_, rfl⟩
  obtain ⟨y1, hy1⟩ : ∃ q, y / 4294967296 = q := ⟨_, rfl⟩
  have ba := Go.Lib.half_mul_le (a := x1) (b := y1) (by omega) (by omega)
  have bb := Go.Lib.half_mul_le (a := x1) (b := y0) (by omega) (by omega)
  have bc := Go.Lib.half_mul_le (a := x0) (b := y1) (by omega) (by omega)
  simp only [hx0, hx1, hy0, hy1] at bd bt bw hhi m1 m2 s1 s2 ⊢
  obtain ⟨w0, hw0⟩ : ∃ q, x0 * y0 = q := ⟨_, rfl⟩
  obtain ⟨p10, hp10⟩ : ∃ q, x1 * y0 = q := ⟨_, rfl⟩
  obtain ⟨p01, hp01⟩ : ∃ q, x0 * y1 = q := ⟨_, rfl⟩
  obtain ⟨p11, hp11⟩ : ∃ q, x1 * y1 = q := ⟨_, rfl⟩
  rw [hw0] at bd
  rw [hw0, hp10] at bt
  rw [hw0, hp10, hp01] at bw
  rw [hw0, hp10, hp01, hp11] at hhi ⊢
  rw [hp11] at ba
  rw [hp10] at bb
  rw [hp01] at bc
  have e1 := mulU hw0 (by omega)
  have e2 := mulU hp10 (by omega)
  have e3 := mulU hp01 (by omega)
  have e4 := mulU hp11 (by omega)
  have e5 := sh32 w0
  obtain ⟨w0h, hw0h⟩ : ∃ q, w0 / 4294967296 = q := ⟨_, rfl⟩
  rw [hw0h] at e5 bt bw hhi ⊢
  obtain ⟨t, ht⟩ : ∃ q, p10 + w0h = q := ⟨_, rfl⟩
  rw [ht] at bt bw hhi ⊢
  have e6 := addU ht (by omega)
  have e7 := maskU t (by omega)
  have e8 := sh32 t
  obtain ⟨tl, htl⟩ : ∃ q, t % 4294967296 = q := ⟨_, rfl⟩
  obtain ⟨th, hth⟩ : ∃ q, t / 4294967296 = q := ⟨_, rfl⟩
  rw [htl] at e7 bw hhi ⊢
  rw [hth] at e8 hhi ⊢
  obtain ⟨w1, hw1⟩ : ∃ q, tl + p01 = q := ⟨_, rfl⟩
  rw [hw1] at bw hhi ⊢
  have e9 := addU hw1 (by omega)
  have e10 := sh32 w1
  obtain ⟨w1h, hw1h⟩ : ∃ q, w1 / 4294967296 = q := ⟨_, rfl⟩
  rw [hw1h] at e10 hhi ⊢
  obtain ⟨s, hs⟩ : ∃ q, p11 + th = q := ⟨_, rfl⟩
  have e11 := addU hs (by omega)
  rw [hs] at hhi ⊢
  obtain ⟨hi, hhi'⟩ : ∃ q, s + w1h = q := ⟨_, rfl⟩
  have e12 := addU hhi' (by omega)
  rw [hhi'] at hhi ⊢
  refine Gives.enter tabOk Try.func29 rfl (by show 2 ≤ 51; decide) ?_
  simp only [Try.f29]
  refine WpC.seq (WpC.ops tabOk (r := []) (by simp -implicitDefEqProofs [hlo, m1, m2, s1, s2, e1, e2, e3, e4, e5, e6, e7, e8, e9, e10, e11, e12] <;> rfl) rfl ?_)
  refine WpC.seq (WpC.ops tabOk (r := []) (by simp -implicitDefEqProofs [hlo, m1, m2, s1, s2, e1, e2, e3, e4, e5, e6, e7, e8, e9, e10, e11, e12] <;> rfl) rfl ?_)
  refine WpC.seq (WpC.ops tabOk (r := []) (by simp -implicitDefEqProofs [hlo, m1, m2, s1, s2, e1, e2, e3, e4, e5, e6, e7, e8, e9, e10, e11, e12] <;> rfl) rfl ?_)
  refine WpC.seq (WpC.ops tabOk (r := []) (by simp -implicitDefEqProofs [hlo, m1, m2, s1, s2, e1, e2, e3, e4, e5, e6, e7, e8, e9, e10, e11, e12] <;> rfl) rfl ?_)
  refine WpC.seq (WpC.ops tabOk (r := []) (by simp -implicitDefEqProofs [hlo, m1, m2, s1, s2, e1, e2, e3, e4, e5, e6, e7, e8, e9, e10, e11, e12] <;> rfl) rfl ?_)
  refine WpC.seq (WpC.ops tabOk (r := []) (by simp -implicitDefEqProofs [hlo, m1, m2, s1, s2, e1, e2, e3, e4, e5, e6, e7, e8, e9, e10, e11, e12] <;> rfl) rfl ?_)
  refine WpC.seq (WpC.ops tabOk (r := []) (by simp -implicitDefEqProofs [hlo, m1, m2, s1, s2, e1, e2, e3, e4, e5, e6, e7, e8, e9, e10, e11, e12] <;> rfl) rfl ?_)
  refine WpC.seq (WpC.ops tabOk (r := []) (by simp -implicitDefEqProofs [hlo, m1, m2, s1, s2, e1, e2, e3, e4, e5, e6, e7, e8, e9, e10, e11, e12] <;> rfl) rfl ?_)
  refine WpC.seq (WpC.ops tabOk (r := []) (by simp -implicitDefEqProofs [hlo, m1, m2, s1, s2, e1, e2, e3, e4, e5, e6, e7, e8, e9, e10, e11, e12] <;> rfl) rfl ?_)
  refine WpC.seq (WpC.ops tabOk (r := []) (by simp -implicitDefEqProofs [hlo, m1, m2, s1, s2, e1, e2, e3, e4, e5, e6, e7, e8, e9, e10, e11, e12] <;> rfl) rfl ?_)
  refine WpC.seq (WpC.ops tabOk (r := []) (by simp -implicitDefEqProofs [hlo, m1, m2, s1, s2, e1, e2, e3, e4, e5, e6, e7, e8, e9, e10, e11, e12] <;> rfl) rfl ?_)
  refine WpC.seq (WpC.ops tabOk (r := []) (by simp -implicitDefEqProofs [hlo, m1, m2, s1, s2, e1, e2, e3, e4, e5, e6, e7, e8, e9, e10, e11, e12] <;> rfl) rfl ?_)
  refine WpC.ret ?_
  try simp only [blockQ, seqQ]
  refine retD_i (by simp -implicitDefEqProofs [hlo, m1, m2, s1, s2, e1, e2, e3, e4, e5, e6, e7, e8, e9, e10, e11, e12] <;> rfl) (by simp -implicitDefEqProofs [hlo, m1, m2, s1, s2, e1, e2, e3, e4, e5, e6, e7, e8, e9, e10, e11, e12] <;> rfl) ?_
  simp -implicitDefEqProofs [hlo, m1, m2, s1, s2, e1, e2, e3, e4, e5, e6, e7, e8, e9, e10, e11, e12]
end Go.Proofs.Ytfbpcjkhgiickaa.Pay
