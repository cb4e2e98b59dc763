/- math/bits: Len64, Div64. No statement of the seed is proved here. -/
import Derived.Test.YtfbpcjkhgiickaaSpF
namespace Go.Proofs.Ytfbpcjkhgiickaa.Pay
open Go Go.RowKit
set_option linter.unusedVariables false
set_option linter.unusedSimpArgs false

theorem log2_shift {y k : Nat} (h : 2 ^ k ≤ y) : 0 < y / 2 ^ k ∧ y.log2 = k + (y / 2 ^ k).log2 := by
  have hk : 0 < 2 ^ k := Nat.two_pow_pos k
  have h1 : 0 < y / 2 ^ k := Nat.div_pos h hk
  refine ⟨h1, ?_⟩
  have hy : y ≠ 0 := by omega
  rw [Nat.log2_eq_iff hy]
  have h2 := Nat.log2_self_le (n := y / 2 ^ k) (by omega)
  have h3 := Nat.lt_log2_self (n := y / 2 ^ k)
  obtain ⟨l, hl⟩ : ∃ l, (y / 2 ^ k).log2 = l := ⟨_, rfl⟩
  rw [hl] at h2 h3 ⊢
  refine ⟨?_, ?_⟩
  · rw [Nat.pow_add, Nat.mul_comm]
    exact Nat.le_trans (Nat.mul_le_mul_right _ h2) (Nat.div_mul_le_self y _)
  · rw [Nat.add_assoc, Nat.pow_add, Nat.mul_comm]
    exact (Nat.div_lt_iff_lt_mul hk).1 h3

theorem len64_ok (y : Nat) (h0 : 0 < y) (hy : y < 18446744073709551616) : Gives Try.prog 50 [.d (.int .u64 y)] (.d (dI (y.log2 + 1))) := by
  obtain ⟨x1, n1, hx1, hxl1, hn1, hl1, ha1, hb1⟩ : ∃ x1 n1 : Nat, 0 < x1 ∧ x1 < 4294967296 ∧ n1 ≤ 32 ∧ y.log2 = n1 + x1.log2 ∧ (4294967296 ≤ y → x1 = y / 4294967296 ∧ n1 = 32) ∧ (¬ 4294967296 ≤ y → x1 = y ∧ n1 = 0) := by
    by_cases h : 4294967296 ≤ y
    · obtain ⟨h1, h2⟩ := log2_shift (k := 32) h
      exact ⟨y / 4294967296, 32, h1, by omega, by omega, h2, fun _ => ⟨rfl, rfl⟩, fun q => absurd h q⟩
    · exact ⟨y, 0, h0, by omega, by omega, by omega, fun q => absurd q h, fun _ => ⟨rfl, rfl⟩⟩
  obtain ⟨x2, n2, hx2, hxl2, hn2, hl2, ha2, hb2⟩ : ∃ x2 n2 : Nat, 0 < x2 ∧ x2 < 65536 ∧ n2 ≤ 48 ∧ y.log2 = n2 + x2.log2 ∧ (65536 ≤ x1 → x2 = x1 / 65536 ∧ n2 = n1 + 16) ∧ (¬ 65536 ≤ x1 → x2 = x1 ∧ n2 = n1) := by
    by_cases h : 65536 ≤ x1
    · obtain ⟨h1, h2⟩ := log2_shift (k := 16) h
      exact ⟨x1 / 65536, n1 + 16, h1, by omega, by omega, by rw [hl1, h2, show (2 : Nat) ^ 16 = 65536 from rfl]; omega, fun _ => ⟨rfl, rfl⟩, fun q => absurd h q⟩
    · exact ⟨x1, n1, hx1, by omega, by omega, by omega, fun q => absurd q h, fun _ => ⟨rfl, rfl⟩⟩
  obtain ⟨x3, n3, hx3, hxl3, hn3, hl3, ha3, hb3⟩ : ∃ x3 n3 : Nat, 0 < x3 ∧ x3 < 256 ∧ n3 ≤ 56 ∧ y.log2 = n3 + x3.log2 ∧ (256 ≤ x2 → x3 = x2 / 256 ∧ n3 = n2 + 8) ∧ (¬ 256 ≤ x2 → x3 = x2 ∧ n3 = n2) := by
    by_cases h : 256 ≤ x2
    · obtain ⟨h1, h2⟩ := log2_shift (k := 8) h
      exact ⟨x2 / 256, n2 + 8, h1, by omega, by omega, by rw [hl2, h2, show (2 : Nat) ^ 8 = 256 from rfl]; omega, fun _ => ⟨rfl, rfl⟩, fun q => absurd h q⟩
    · exact ⟨x2, n2, hx2, by omega, by omega, by omega, fun q => absurd q h, fun _ => ⟨rfl, rfl⟩⟩
  have e1 : ((4294967296 : Int) ≤ (y : Int)) ↔ 4294967296 ≤ y := by omega
  have e2 : ((65536 : Int) ≤ (x1 : Int)) ↔ 65536 ≤ x1 := by omega
  have e3 : ((256 : Int) ≤ (x2 : Int)) ↔ 256 ≤ x2 := by omega
  have s1 := shrU y (k := 32) (by decide)
  have s2 := shrU x1 (k := 16) (by decide)
  have s3 := shrU x2 (k := 8) (by decide)
  rw [show (2 : Nat) ^ 32 = 4294967296 from rfl] at s1
  rw [show (2 : Nat) ^ 16 = 65536 from rfl] at s2
  rw [show (2 : Nat) ^ 8 = 256 from rfl] at s3
  have w1 : IntKind.i64.wrap ((n1 : Int) + 16) = ((n1 + 16 : Nat) : Int) := by rw [wrapI (by omega) (by omega)]; omega
  have w2 : IntKind.i64.wrap ((n2 : Int) + 8) = ((n2 + 8 : Nat) : Int) := by rw [wrapI (by omega) (by omega)]; omega
  have w3 : IntKind.u8.wrap (x3 : Int) = x3 := by simp [IntKind.wrap, IntKind.bits, IntKind.signed]; omega
  refine Gives.enter tabOk Try.func50 rfl (by show 1 ≤ 25; decide) ?_
  simp only [Try.f50]
  refine WpC.seq (WpC.ops tabOk (r := []) (by simp -implicitDefEqProofs [e1, e2, e3, s1, s2, s3, w1, w2, w3, hxl3] <;> rfl) rfl ?_)
  refine WpC.seq ?_
  refine WpC.seq (WpC.ops tabOk (r := []) (by simp -implicitDefEqProofs [e1, e2, e3, s1, s2, s3, w1, w2, w3, hxl3] <;> rfl) rfl ?_)
  refine WpC.join ⟨[(0, .d (.int .u64 x1)), (2, .d (dI n1))], [], 25, 0⟩ ?_ ?_
  · refine WpC.condD (4294967296 ≤ y) (by simp -implicitDefEqProofs [e1, e2, e3, s1, s2, s3, w1, w2, w3, hxl3]) (fun d4 => ?_) (fun d4 => ?_)
    · obtain ⟨u1, u2⟩ := ha1 d4
      subst u2
      have u1' := u1.symm
      refine WpC.seq (WpC.ops tabOk (r := []) (by simp -implicitDefEqProofs [e1, e2, e3, s1, s2, s3, w1, w2, w3, hxl3, d4, u1'] <;> rfl) rfl ?_)
      refine WpC.ops tabOk (r := []) (by simp -implicitDefEqProofs [e1, e2, e3, s1, s2, s3, w1, w2, w3, hxl3, d4, u1'] <;> rfl) rfl ?_
      exact ⟨rfl, Gh.cut' [0, 2] 0 (by simp -implicitDefEqProofs [e1, e2, e3, s1, s2, s3, w1, w2, w3, hxl3, d4, u1']) (by simp -implicitDefEqProofs [e1, e2, e3, s1, s2, s3, w1, w2, w3, hxl3, d4, u1']) rfl (by simp) (by simp) (by simp)⟩
    · obtain ⟨u1, u2⟩ := hb1 d4
      subst u1 u2
      refine WpC.skip ?_
      exact ⟨rfl, Gh.cut' [0, 2] 0 (by simp -implicitDefEqProofs [e1, e2, e3, s1, s2, s3, w1, w2, w3, hxl3, d4]) (by simp -implicitDefEqProofs [e1, e2, e3, s1, s2, s3, w1, w2, w3, hxl3, d4]) rfl (by simp) (by simp) (by simp)⟩
  · refine WpC.seq ?_
    refine WpC.seq (WpC.ops tabOk (r := []) (by simp -implicitDefEqProofs [e1, e2, e3, s1, s2, s3, w1, w2, w3, hxl3] <;> rfl) rfl ?_)
    refine WpC.join ⟨[(0, .d (.int .u64 x2)), (2, .d (dI n2))], [], 25, 0⟩ ?_ ?_
    · refine WpC.condD (65536 ≤ x1) (by simp -implicitDefEqProofs [e1, e2, e3, s1, s2, s3, w1, w2, w3, hxl3]) (fun d8 => ?_) (fun d8 => ?_)
      · obtain ⟨u1, u2⟩ := ha2 d8
        subst u2
        have u1' := u1.symm
        refine WpC.seq (WpC.ops tabOk (r := []) (by simp -implicitDefEqProofs [e1, e2, e3, s1, s2, s3, w1, w2, w3, hxl3, d8, u1'] <;> rfl) rfl ?_)
        refine WpC.ops tabOk (r := []) (by simp -implicitDefEqProofs [e1, e2, e3, s1, s2, s3, w1, w2, w3, hxl3, d8, u1'] <;> rfl) rfl ?_
        exact ⟨rfl, Gh.cut' [0, 2] 0 (by simp -implicitDefEqProofs [e1, e2, e3, s1, s2, s3, w1, w2, w3, hxl3, d8, u1']) (by simp -implicitDefEqProofs [e1, e2, e3, s1, s2, s3, w1, w2, w3, hxl3, d8, u1']) rfl (by simp) (by simp) (by simp)⟩
      · obtain ⟨u1, u2⟩ := hb2 d8
        subst u1 u2
        refine WpC.skip ?_
        exact ⟨rfl, Gh.cut' [0, 2] 0 (by simp -implicitDefEqProofs [e1, e2, e3, s1, s2, s3, w1, w2, w3, hxl3, d8]) (by simp -implicitDefEqProofs [e1, e2, e3, s1, s2, s3, w1, w2, w3, hxl3, d8]) rfl (by simp) (by simp) (by simp)⟩
    · refine WpC.seq ?_
      refine WpC.seq (WpC.ops tabOk (r := []) (by simp -implicitDefEqProofs [e1, e2, e3, s1, s2, s3, w1, w2, w3, hxl3] <;> rfl) rfl ?_)
      refine WpC.join ⟨[(0, .d (.int .u64 x3)), (2, .d (dI n3))], [], 25, 0⟩ ?_ ?_
      · refine WpC.condD (256 ≤ x2) (by simp -implicitDefEqProofs [e1, e2, e3, s1, s2, s3, w1, w2, w3, hxl3]) (fun d14 => ?_) (fun d14 => ?_)
        · obtain ⟨u1, u2⟩ := ha3 d14
          subst u2
          have u1' := u1.symm
          refine WpC.seq (WpC.ops tabOk (r := []) (by simp -implicitDefEqProofs [e1, e2, e3, s1, s2, s3, w1, w2, w3, hxl3, d14, u1'] <;> rfl) rfl ?_)
          refine WpC.ops tabOk (r := []) (by simp -implicitDefEqProofs [e1, e2, e3, s1, s2, s3, w1, w2, w3, hxl3, d14, u1'] <;> rfl) rfl ?_
          exact ⟨rfl, Gh.cut' [0, 2] 0 (by simp -implicitDefEqProofs [e1, e2, e3, s1, s2, s3, w1, w2, w3, hxl3, d14, u1']) (by simp -implicitDefEqProofs [e1, e2, e3, s1, s2, s3, w1, w2, w3, hxl3, d14, u1']) rfl (by simp) (by simp) (by simp)⟩
        · obtain ⟨u1, u2⟩ := hb3 d14
          subst u1 u2
          refine WpC.skip ?_
          exact ⟨rfl, Gh.cut' [0, 2] 0 (by simp -implicitDefEqProofs [e1, e2, e3, s1, s2, s3, w1, w2, w3, hxl3, d14]) (by simp -implicitDefEqProofs [e1, e2, e3, s1, s2, s3, w1, w2, w3, hxl3, d14]) rfl (by simp) (by simp) (by simp)⟩
      · generalize hS : ByteArray.mk _ = S
        have hs0 : ((List.range 256).all fun x => x == 0 || (S.data.toList[x]?).map UInt8.toNat == some (x.log2 + 1)) = true := by rw [← hS]; decide +kernel
        have hs1 := List.all_eq_true.1 hs0 x3 (List.mem_range.2 hxl3)
        have hx30 : (x3 == 0) = false := by simp; omega
        rw [hx30, Bool.false_or, beq_iff_eq, Option.map_eq_some_iff] at hs1
        obtain ⟨b, hs2, hs3⟩ := hs1
        have hs2 : S.data[x3]? = some b := by rw [← Array.getElem?_toList]; exact hs2
        have hb : x3.log2 ≤ 7 := by have := (Nat.log2_lt (by omega)).2 (show x3 < 2 ^ 8 from hxl3); omega
        have w4 : IntKind.i64.wrap ((x3.log2 : Int) + 1) = (x3.log2 : Int) + 1 := wrapI (by omega) (by omega)
        have w5 : IntKind.i64.wrap ((n3 : Int) + ((x3.log2 : Int) + 1)) = (y.log2 : Int) + 1 := by rw [wrapI (by omega) (by omega)]; omega
        refine WpC.seq (WpC.ops tabOk (r := []) (by simp -implicitDefEqProofs [e1, e2, e3, s1, s2, s3, w1, w2, w3, hxl3, hs2, hs3, w4, w5] <;> rfl) rfl ?_)
        refine WpC.ret ?_
        try simp only [blockQ, seqQ]
        refine retD_i (by simp -implicitDefEqProofs [e1, e2, e3, s1, s2, s3, w1, w2, w3, hxl3, hs2, hs3, w4, w5] <;> rfl) (by simp -implicitDefEqProofs [e1, e2, e3, s1, s2, s3, w1, w2, w3, hxl3, hs2, hs3, w4, w5] <;> rfl) ?_
        simp -implicitDefEqProofs [e1, e2, e3, s1, s2, s3, w1, w2, w3, hxl3, hs2, hs3, w4, w5]
end Go.Proofs.Ytfbpcjkhgiickaa.Pay
