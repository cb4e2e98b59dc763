/- math/bits: Div64. No statement of the seed is proved here. -/
import Derived.Test.YtfbpcjkhgiickaaSpG
namespace Go.Proofs.Ytfbpcjkhgiickaa.Pay
open Go Go.RowKit
set_option linter.unusedVariables false
set_option linter.unusedSimpArgs false
set_option maxRecDepth 20000

theorem lead_ok (y : Nat) (h0 : 0 < y) (hy : y < 18446744073709551616) : Gives Try.prog 44 [.d (.int .u64 y)] (.d (dI (63 - y.log2 : Nat))) := by
  have hl := len64_ok y h0 hy
  have hb : y.log2 ≤ 63 := by have := (Nat.log2_lt (by omega)).2 (show y < 2 ^ 64 from hy); omega
  have hw : IntKind.i64.wrap (64 - ((y.log2 : Int) + 1)) = ((63 - y.log2 : Nat) : Int) := by rw [wrapI (by omega) (by omega)]; omega
  obtain ⟨r, hr⟩ : ∃ r, 63 - y.log2 = r := ⟨_, rfl⟩
  rw [hr] at hw ⊢
  refine Gives.enter tabOk Try.func44 rfl (by show 1 ≤ 6; decide) ?_
  simp only [Try.f44]
  refine WpC.seq (WpC.ops tabOk (r := []) (by simp -implicitDefEqProofs [hw] <;> rfl) rfl ?_)
  refine WpC.seq ?_
  refine WpC.region ?_
  refine WpO.run tabOk 1 (by simp -implicitDefEqProofs [hw] <;> first | exact ⟨rfl, rfl⟩ | rfl) ?_
  refine WpO.data (by simp) rfl (by simp -implicitDefEqProofs [hw] <;> rfl) (by simp -implicitDefEqProofs [hw] <;> rfl) (by simp -implicitDefEqProofs [hw] <;> rfl) call_50 (by simp) (hl) (by rfl) (by simp -implicitDefEqProofs [hw] <;> rfl) ?_
  refine WpO.run tabOk 2 (by simp -implicitDefEqProofs [hw] <;> first | exact ⟨rfl, rfl⟩ | rfl) ?_
  refine WpO.nil ?_
  refine WpC.ret ?_
  try simp only [blockQ, seqQ]
  refine retD_i (by simp -implicitDefEqProofs [hw] <;> rfl) (by simp -implicitDefEqProofs [hw] <;> rfl) ?_
  simp -implicitDefEqProofs [hw]

theorem quoU (a b : Nat) (ha : a < 18446744073709551616) : IntKind.u64.wrap ((a : Int).tdiv b) = ((a / b : Nat) : Int) := by
  rw [Int.tdiv_eq_ediv_of_nonneg (by omega), ← Int.natCast_ediv, wrapUm, Nat.mod_eq_of_lt (Nat.lt_of_le_of_lt (Nat.div_le_self a b) ha)]
theorem remU (a b : Nat) : (a : Int).tmod b = ((a % b : Nat) : Int) := by
  rw [Int.tmod_eq_emod_of_nonneg (by omega), ← Int.natCast_emod]
theorem orU {a b s : Nat} (hs : s ≤ 64) (h1 : a * 2 ^ s < 18446744073709551616) (h2 : b < 2 ^ s) (h3 : b < 18446744073709551616) : bits .or .u64 ((a * 2 ^ s : Nat) : Int) (b : Int) = ((a * 2 ^ s + b : Nat) : Int) := by
  rw [bits_or_u64_nat _ _ h1 h3, Nat.mul_comm, ← Nat.two_pow_add_eq_or_of_lt h2]
theorem subU {A B C r : Nat} (h : A + B = C + r) (hr : r < 18446744073709551616) : IntKind.u64.wrap (IntKind.u64.wrap (IntKind.u64.wrap (A : Int) + B) - IntKind.u64.wrap (C : Int)) = (r : Int) := by
  simp only [IntKind.wrap_u64]; omega

/-- A digit of 32 bits is looked for. -/
structure Dg (yn1 yn0 u d Q q r : Nat) : Prop where
  e : q * yn1 + r = u
  le : Q ≤ q
section
variable {yn1 yn0 u d Q q r : Nat}
theorem dg_dec (hu : u < yn1 * 4294967296 + yn0) (hd : d < 4294967296) (hQ : (u * 4294967296 + d) / (yn1 * 4294967296 + yn0) = Q) (h : Dg yn1 yn0 u d Q q r) (hc : 4294967296 ≤ q ∨ 4294967296 * r + d < q * yn0) : 0 < q ∧ Dg yn1 yn0 u d Q (q - 1) (r + yn1) := by
  obtain ⟨he, hle⟩ := h
  have hY : 0 < yn1 * 4294967296 + yn0 := by omega
  have hq : 0 < q := by
    rcases hc with hc | hc
    · omega
    · rcases Nat.eq_zero_or_pos q with rfl | h
      · simp at hc
      · exact h
  have hlt : Q < q := by
    rw [← hQ, Nat.div_lt_iff_lt_mul hY]
    rcases hc with hc | hc
    · have h1 : 4294967296 * (yn1 * 4294967296 + yn0) ≤ q * (yn1 * 4294967296 + yn0) := Nat.mul_le_mul_right _ hc
      omega
    · have h1 : q * (yn1 * 4294967296 + yn0) = q * yn1 * 4294967296 + q * yn0 := by rw [Nat.mul_add, Nat.mul_assoc]
      rw [h1]; omega
  refine ⟨hq, ?_, by omega⟩
  have h2 : (q - 1) * yn1 + yn1 = q * yn1 := by rw [← Nat.succ_mul]; congr 1; omega
  omega
theorem dg_end (hu : u < yn1 * 4294967296 + yn0) (hQ : (u * 4294967296 + d) / (yn1 * 4294967296 + yn0) = Q) (h : Dg yn1 yn0 u d Q q r) (hc : q * yn0 ≤ 4294967296 * r + d) : q = Q := by
  obtain ⟨he, hle⟩ := h
  have hY : 0 < yn1 * 4294967296 + yn0 := by omega
  have h1 : q * (yn1 * 4294967296 + yn0) = q * yn1 * 4294967296 + q * yn0 := by rw [Nat.mul_add, Nat.mul_assoc]
  have h2 : q ≤ Q := by
    rw [← hQ, Nat.le_div_iff_mul_le hY, h1]; omega
  omega
theorem dg_far (hu : u < yn1 * 4294967296 + yn0) (h0 : yn0 < 4294967296) (hQ : (u * 4294967296 + d) / (yn1 * 4294967296 + yn0) = Q) (h : Dg yn1 yn0 u d Q q r) (hr : 4294967296 ≤ r) : q = Q := by
  have h1 : q < 4294967296 := by
    rcases Nat.lt_or_ge q 4294967296 with h' | h'
    · exact h'
    · have : 4294967296 * yn1 ≤ q * yn1 := Nat.mul_le_mul_right _ h'
      have := h.e
      omega
  have h2 : q * yn0 ≤ 4294967296 * yn0 := Nat.mul_le_mul_right _ (by omega)
  exact dg_end hu hQ h (by omega)
theorem Dg.qle (h : Dg yn1 yn0 u d Q q r) (h1 : 0 < yn1) : q ≤ u := by
  have h2 := Nat.le_mul_of_pos_right q h1
  have := h.e
  omega
theorem dg_lt (hu : u < yn1 * 4294967296 + yn0) (hd : d < 4294967296) (hQ : (u * 4294967296 + d) / (yn1 * 4294967296 + yn0) = Q) : Q < 4294967296 := by
  rw [← hQ, Nat.div_lt_iff_lt_mul (by omega)]; omega
end
theorem two_gen {M u d1 d0 r1 r0 A B : Nat} (h1 : u * M + d1 = A + r1) (h0 : r1 * M + d0 = B + r0) : u * (M * M) + (d1 * M + d0) = r0 + (A * M + B) := by
  have h2 : (u * M + d1) * M = (A + r1) * M := by rw [h1]
  rw [Nat.add_mul, Nat.add_mul, Nat.mul_assoc] at h2
  omega
theorem two_lin {u d1 d0 r1 r0 A B : Nat} (h1 : u * 4294967296 + d1 = A + r1) (h0 : r1 * 4294967296 + d0 = B + r0) : u * 18446744073709551616 + (d1 * 4294967296 + d0) = r0 + (A * 4294967296 + B) := by
  have h := two_gen h1 h0
  rw [show (4294967296 : Nat) * 4294967296 = 18446744073709551616 from by decide] at h
  exact h
/-- Two digits are the quotient. -/
theorem two_digits {Y u d1 d0 Q1 r1 Q0 r0 : Nat} (hY : 0 < Y) (h1 : u * 4294967296 + d1 = Q1 * Y + r1) (h0 : r1 * 4294967296 + d0 = Q0 * Y + r0) (hr : r0 < Y) :
    (u * 18446744073709551616 + (d1 * 4294967296 + d0)) / Y = Q1 * 4294967296 + Q0 ∧ (u * 18446744073709551616 + (d1 * 4294967296 + d0)) % Y = r0 := by
  have e : u * 18446744073709551616 + (d1 * 4294967296 + d0) = r0 + (Q1 * 4294967296 + Q0) * Y := by
    have : (Q1 * 4294967296 + Q0) * Y = Q1 * Y * 4294967296 + Q0 * Y := by rw [Nat.add_mul, Nat.mul_right_comm]
    rw [this]
    exact two_lin h1 h0
  rw [e]
  exact ⟨by rw [Nat.add_mul_div_right _ _ hY, Nat.div_eq_of_lt hr, Nat.zero_add], by rw [Nat.add_mul_mod_self_right, Nat.mod_eq_of_lt hr]⟩

set_option maxHeartbeats 40000000 in
theorem div64_ok (xh lo y : Nat) (hh : xh < y) (hl : lo < 18446744073709551616) (hy : y < 18446744073709551616) :
    Gives Try.prog 31 [.d (.int .u64 xh), .d (.int .u64 lo), .d (.int .u64 y)] (.tup [.d (.int .u64 (((xh * 18446744073709551616 + lo) / y : Nat) : Int)), .d (.int .u64 (((xh * 18446744073709551616 + lo) % y : Nat) : Int))]) := by
  have hy0 : 0 < y := by omega
  have hlead := lead_ok y hy0 hy
  obtain ⟨s, hs⟩ : ∃ s, 63 - y.log2 = s := ⟨_, rfl⟩
  rw [hs] at hlead
  have hlog : y.log2 ≤ 63 := by have := (Nat.log2_lt (by omega)).2 (show y < 2 ^ 64 from hy); omega
  have hs63 : s ≤ 63 := by omega
  have hq0 := quoU lo y hl
  have hr0 := remU lo y
  have hq0b : IntKind.u64.wrap ((lo : Int) / (y : Int)) = (lo : Int) / (y : Int) := by rw [Int.tdiv_eq_ediv_of_nonneg (by omega)] at hq0; rw [hq0, Int.natCast_ediv]
  have hz1 : ¬ ((y : Int) ≤ xh) := by omega
  have hz2 : ¬ y = 0 := by omega
  have hsw : IntKind.u64.wrap (s : Int) = s := wrapU (by omega) (by omega)
  -- the divisor is moved up
  have hp : 0 < 2 ^ s := Nat.two_pow_pos s
  obtain ⟨P, hP⟩ : ∃ P, 2 ^ s = P := ⟨_, rfl⟩
  have p64 : (2 : Nat) ^ 64 = 18446744073709551616 := by decide
  have p63 : (2 : Nat) ^ 63 = 9223372036854775808 := by decide
  have hpw : 2 ^ s * 2 ^ (64 - s) = 18446744073709551616 := by rw [← Nat.pow_add, show s + (64 - s) = 64 from by omega, p64]
  obtain ⟨R, hR⟩ : ∃ R, 2 ^ (64 - s) = R := ⟨_, rfl⟩
  have hYlo : 9223372036854775808 ≤ y * 2 ^ s := by
    have h1 := Nat.log2_self_le (n := y) (by omega)
    have h2 : 2 ^ y.log2 * 2 ^ s ≤ y * 2 ^ s := Nat.mul_le_mul_right _ h1
    rw [← Nat.pow_add, show y.log2 + s = 63 from by omega, p63] at h2
    exact h2
  have hYhi : y * 2 ^ s < 18446744073709551616 := by
    have h1 := Nat.lt_log2_self (n := y)
    have h2 : y * 2 ^ s < 2 ^ (y.log2 + 1) * 2 ^ s := Nat.mul_lt_mul_of_pos_right h1 hp
    rw [← Nat.pow_add, show y.log2 + 1 + s = 64 from by omega, p64] at h2
    exact h2
  have sh1 := shlU y (k := s) (by omega)
  rw [Nat.mod_eq_of_lt hYhi] at sh1
  obtain ⟨Y, hY⟩ : ∃ Y, y * 2 ^ s = Y := ⟨_, rfl⟩
  have hhs : xh * 2 ^ s + 2 ^ s ≤ y * 2 ^ s := by
    have : (xh + 1) * 2 ^ s ≤ y * 2 ^ s := Nat.mul_le_mul_right _ hh
    rw [Nat.add_mul, Nat.one_mul] at this; exact this
  have sh2 := shlU xh (k := s) (by omega)
  rw [Nat.mod_eq_of_lt (by omega)] at sh2
  have sh3 := shrU lo (k := 64 - s) (by omega)
  have hrl : lo / 2 ^ (64 - s) < 2 ^ s := by
    rw [Nat.div_lt_iff_lt_mul (Nat.two_pow_pos _), hpw]; exact hl
  have sh4 := orU (a := xh) (b := lo / 2 ^ (64 - s)) (s := s) (by omega) (by omega) hrl (by omega)
  have sh5 := shlU lo (k := s) (by omega)
  have hlo2 : lo * 2 ^ s = lo / 2 ^ (64 - s) * 18446744073709551616 + lo * 2 ^ s % 18446744073709551616 := by
    have e1 : lo * 2 ^ s / 18446744073709551616 = lo / 2 ^ (64 - s) := by
      rw [← hpw, Nat.mul_comm lo, Nat.mul_div_mul_left _ _ hp]
    rw [← e1]; omega
  obtain ⟨u, hu⟩ : ∃ u, xh * 2 ^ s + lo / 2 ^ (64 - s) = u := ⟨_, rfl⟩
  obtain ⟨v, hv⟩ : ∃ v, lo * 2 ^ s % 18446744073709551616 = v := ⟨_, rfl⟩
  have hN : (xh * 18446744073709551616 + lo) * 2 ^ s = u * 18446744073709551616 + v := by
    rw [Nat.add_mul, Nat.mul_right_comm]; omega
  have huY : u < Y := by omega
  have hdiv : (xh * 18446744073709551616 + lo) / y = (u * 18446744073709551616 + v) / Y := by
    rw [← hN, ← hY, Nat.mul_div_mul_right _ _ hp]
  have hmod : (xh * 18446744073709551616 + lo) % y = (u * 18446744073709551616 + v) % Y / 2 ^ s := by
    rw [← hN, ← hY, Nat.mul_mod_mul_right, Nat.mul_div_cancel _ hp]
  rw [hY] at sh1 hYlo hYhi
  rw [hu] at sh4
  rw [hv] at sh5
  have hv2 : v < 18446744073709551616 := by omega
  have sw64 : IntKind.u64.wrap (64 - (s : Int)) = ((64 - s : Nat) : Int) := by rw [wrapU (by omega) (by omega)]; omega
  obtain ⟨a1, ha1⟩ : ∃ q, xh * 2 ^ s = q := ⟨_, rfl⟩
  obtain ⟨a2, ha2⟩ : ∃ q, lo / 2 ^ (64 - s) = q := ⟨_, rfl⟩
  obtain ⟨s64, hs64⟩ : ∃ q, 64 - s = q := ⟨_, rfl⟩
  rw [ha1] at sh2 sh4
  rw [ha2] at sh3 sh4
  rw [hs64] at sh3 sw64
  -- halves
  have mk1 := sh32 Y
  have mk2 := maskU Y hYhi
  have mk3 := sh32 v
  have mk4 := maskU v hv2
  obtain ⟨n1, hn1⟩ : ∃ q, Y / 4294967296 = q := ⟨_, rfl⟩
  obtain ⟨n0, hn0⟩ : ∃ q, Y % 4294967296 = q := ⟨_, rfl⟩
  obtain ⟨d1, hd1⟩ : ∃ q, v / 4294967296 = q := ⟨_, rfl⟩
  obtain ⟨d0, hd0⟩ : ∃ q, v % 4294967296 = q := ⟨_, rfl⟩
  rw [hn1] at mk1
  rw [hn0] at mk2
  rw [hd1] at mk3
  rw [hd0] at mk4
  have hYe : n1 * 4294967296 + n0 = Y := by rw [← hn1, ← hn0]; exact Nat.div_add_mod' _ _
  have hve : d1 * 4294967296 + d0 = v := by rw [← hd1, ← hd0]; exact Nat.div_add_mod' _ _
  have hn1lo : 2147483648 ≤ n1 := by omega
  have hn1hi : n1 < 4294967296 := by omega
  have hn0hi : n0 < 4294967296 := by omega
  have hn10 : ¬ n1 = 0 := by omega
  have hd1hi : d1 < 4294967296 := by omega
  have hd0hi : d0 < 4294967296 := by omega
  obtain ⟨Q1, hQ1⟩ : ∃ q, (u * 4294967296 + d1) / Y = q := ⟨_, rfl⟩
  obtain ⟨r1, hr1⟩ : ∃ q, (u * 4294967296 + d1) % Y = q := ⟨_, rfl⟩
  have hdm1 : u * 4294967296 + d1 = Q1 * Y + r1 := by rw [← hQ1, ← hr1]; exact (Nat.div_add_mod' _ _).symm
  have hr1Y : r1 < Y := by rw [← hr1]; exact Nat.mod_lt _ (by omega)
  obtain ⟨Q0, hQ0⟩ : ∃ q, (r1 * 4294967296 + d0) / Y = q := ⟨_, rfl⟩
  obtain ⟨r0, hr0'⟩ : ∃ q, (r1 * 4294967296 + d0) % Y = q := ⟨_, rfl⟩
  have hdm0 : r1 * 4294967296 + d0 = Q0 * Y + r0 := by rw [← hQ0, ← hr0']; exact (Nat.div_add_mod' _ _).symm
  have hr0Y : r0 < Y := by rw [← hr0']; exact Nat.mod_lt _ (by omega)
  obtain ⟨td1, td2⟩ := two_digits (by omega) hdm1 hdm0 hr0Y
  rw [hve] at td1 td2
  rw [td1] at hdiv
  rw [td2] at hmod
  have hu' : u < n1 * 4294967296 + n0 := by omega
  have hr1' : r1 < n1 * 4294967296 + n0 := by omega
  rw [← hYe] at hQ1 hQ0
  have hQ1l := dg_lt hu' hd1hi hQ1
  have hQ0l := dg_lt hr1' hd0hi hQ0
  have fq1 : IntKind.u64.wrap ((u : Int).tdiv n1) = ((u / n1 : Nat) : Int) := quoU u n1 (by omega)
  have fq0 : IntKind.u64.wrap ((r1 : Int).tdiv n1) = ((r1 / n1 : Nat) : Int) := quoU r1 n1 (by omega)
  obtain ⟨b1, hb1⟩ : ∃ q, u / n1 = q := ⟨_, rfl⟩
  obtain ⟨b0, hb0⟩ : ∃ q, r1 / n1 = q := ⟨_, rfl⟩
  rw [hb1] at fq1
  rw [hb0] at fq0
  have fq1b : IntKind.u64.wrap ((u : Int) / (n1 : Int)) = (b1 : Int) := by rw [Int.tdiv_eq_ediv_of_nonneg (by omega)] at fq1; exact fq1
  have fq0b : IntKind.u64.wrap ((r1 : Int) / (n1 : Int)) = (b0 : Int) := by rw [Int.tdiv_eq_ediv_of_nonneg (by omega)] at fq0; exact fq0
  have start : ∀ {w d Q b : Nat}, w < n1 * 4294967296 + n0 → d < 4294967296 → (w * 4294967296 + d) / (n1 * 4294967296 + n0) = Q → w / n1 = b → ∃ p r, b * n1 = p ∧ p < 18446744073709551616 ∧ w - p = r ∧ p ≤ w ∧ r < 4294967296 ∧ Dg n1 n0 w d Q b r := by
    intro w d Q b hw hd hQ hb
    have e1 : b * n1 + w % n1 = w := by rw [← hb]; exact Nat.div_add_mod' _ _
    have e2 : w % n1 < n1 := Nat.mod_lt _ (by omega)
    refine ⟨b * n1, w - b * n1, rfl, by omega, rfl, by omega, by omega, by omega, ?_⟩
    rw [← hQ, ← hb, Nat.le_div_iff_mul_le (by omega)]
    have e3 := Nat.div_mul_le_self (w * 4294967296 + d) (n1 * 4294967296 + n0)
    obtain ⟨q, hq⟩ : ∃ q, (w * 4294967296 + d) / (n1 * 4294967296 + n0) = q := ⟨_, rfl⟩
    rw [hq] at e3 ⊢
    have e4 : q * (n1 * 4294967296 + n0) = q * n1 * 4294967296 + q * n0 := by rw [Nat.mul_add, Nat.mul_assoc]
    omega
  obtain ⟨p1, t1, hp1, hp1l, ht1, hp1u, ht1l, hg1⟩ := start hu' hd1hi hQ1 hb1
  obtain ⟨p0, t0, hp0, hp0l, ht0, hp0u, ht0l, hg0⟩ := start hr1' hd0hi hQ0 hb0
  have fm1 := mulU hp1 hp1l
  have fm0 := mulU hp0 hp0l
  have fs1 : IntKind.u64.wrap ((u : Int) - p1) = (t1 : Int) := by rw [wrapU (by omega) (by omega)]; omega
  have fs0 : IntKind.u64.wrap ((r1 : Int) - p0) = (t0 : Int) := by rw [wrapU (by omega) (by omega)]; omega
  have fr1 : IntKind.u64.wrap (IntKind.u64.wrap (IntKind.u64.wrap ((u : Int) * 4294967296) + d1) - IntKind.u64.wrap ((Q1 : Int) * Y)) = (r1 : Int) := by
    have := subU hdm1 (by omega); rwa [Int.natCast_mul, Int.natCast_mul] at this
  have fr0 : IntKind.u64.wrap (IntKind.u64.wrap (IntKind.u64.wrap ((r1 : Int) * 4294967296) + d0) - IntKind.u64.wrap ((Q0 : Int) * Y)) = (r0 : Int) := by
    have := subU hdm0 (by omega); rwa [Int.natCast_mul, Int.natCast_mul] at this
  obtain ⟨z1, hz1'⟩ : ∃ q, Q1 * 4294967296 = q := ⟨_, rfl⟩
  have ff1 : IntKind.u64.wrap ((Q1 : Int) * 4294967296) = (z1 : Int) := mulU (b := 4294967296) hz1' (by omega)
  obtain ⟨z, hz'⟩ : ∃ q, z1 + Q0 = q := ⟨_, rfl⟩
  have ff2 := addU hz' (by omega)
  have ff3 := shrU r0 (k := s) (by omega)
  have hz3 : (s : Int).toNat = s := by omega
  rw [hdiv, hmod, hz1', hz']
  obtain ⟨rr, hrr⟩ : ∃ q, r0 / 2 ^ s = q := ⟨_, rfl⟩
  rw [hrr] at ff3 ⊢
  refine Gives.enter tabOk Try.func31 rfl (by show 3 ≤ 135; decide) ?_
  simp only [Try.f31]
  refine WpC.seq (WpC.ops tabOk (r := []) (by simp -implicitDefEqProofs [hz1, hz2, hn10, hsw, sh1, sh2, sh3, sh4, sh5, sw64, mk1, mk2, mk3, mk4, fq1, fq0, fq1b, fq0b, fm1, fm0, fs1, fs0, fr1, fr0, ff1, ff2, ff3] <;> rfl) rfl ?_)
  refine WpC.seq ?_
  refine WpC.seq (WpC.ops tabOk (r := []) (by simp -implicitDefEqProofs [hz1, hz2, hn10, hsw, sh1, sh2, sh3, sh4, sh5, sw64, mk1, mk2, mk3, mk4, fq1, fq0, fq1b, fq0b, fm1, fm0, fs1, fs0, fr1, fr0, ff1, ff2, ff3] <;> rfl) rfl ?_)
  refine WpC.condF (by simp -implicitDefEqProofs [hz1, hz2, hn10, hsw, sh1, sh2, sh3, sh4, sh5, sw64, mk1, mk2, mk3, mk4, fq1, fq0, fq1b, fq0b, fm1, fm0, fs1, fs0, fr1, fr0, ff1, ff2, ff3] <;> rfl) ?_
  refine WpC.skip ?_
  refine WpC.seq ?_
  refine WpC.seq (WpC.ops tabOk (r := []) (by simp -implicitDefEqProofs [hz1, hz2, hn10, hsw, sh1, sh2, sh3, sh4, sh5, sw64, mk1, mk2, mk3, mk4, fq1, fq0, fq1b, fq0b, fm1, fm0, fs1, fs0, fr1, fr0, ff1, ff2, ff3] <;> rfl) rfl ?_)
  refine WpC.condF (by simp -implicitDefEqProofs [hz1, hz2, hn10, hsw, sh1, sh2, sh3, sh4, sh5, sw64, mk1, mk2, mk3, mk4, fq1, fq0, fq1b, fq0b, fm1, fm0, fs1, fs0, fr1, fr0, ff1, ff2, ff3] <;> rfl) ?_
  refine WpC.skip ?_
  refine WpC.seq ?_
  refine WpC.seq (WpC.ops tabOk (r := []) (by simp -implicitDefEqProofs [hz1, hz2, hn10, hsw, sh1, sh2, sh3, sh4, sh5, sw64, mk1, mk2, mk3, mk4, fq1, fq0, fq1b, fq0b, fm1, fm0, fs1, fs0, fr1, fr0, ff1, ff2, ff3] <;> rfl) rfl ?_)
  refine WpC.condD (xh = 0) (by simp -implicitDefEqProofs [hz1, hz2, hn10, hsw, sh1, sh2, sh3, sh4, sh5, sw64, mk1, mk2, mk3, mk4, fq1, fq0, fq1b, fq0b, fm1, fm0, fs1, fs0, fr1, fr0, ff1, ff2, ff3]) (fun d27 => ?_) (fun d27 => ?_)
  · have hd2 : (xh * 18446744073709551616 + lo) / y = lo / y := by rw [d27, Nat.zero_mul, Nat.zero_add]
    have hm2 : (xh * 18446744073709551616 + lo) % y = lo % y := by rw [d27, Nat.zero_mul, Nat.zero_add]
    have hd3 : z = lo / y := by rw [← hd2, hdiv, hz1', hz']
    have hm3 : rr = lo % y := by rw [← hm2, hmod, hrr]
    rw [hd3, hm3]
    refine WpC.seq (WpC.drawn tabOk (by kernel_rfl) 0 (by simp) ?_)
    refine DrO.run (fz := []) 3 (by simp -implicitDefEqProofs [hz1, hz2, hn10, hsw, sh1, sh2, sh3, sh4, sh5, sw64, mk1, mk2, mk3, mk4, fq1, fq0, fq1b, fq0b, fm1, fm0, fs1, fs0, fr1, fr0, ff1, ff2, ff3, d27, hq0, hr0, hq0b] <;> first | exact ⟨rfl, rfl, rfl, rfl⟩ | rfl) ?_
    refine DrO.run (fz := []) 3 (by simp -implicitDefEqProofs [hz1, hz2, hn10, hsw, sh1, sh2, sh3, sh4, sh5, sw64, mk1, mk2, mk3, mk4, fq1, fq0, fq1b, fq0b, fm1, fm0, fs1, fs0, fr1, fr0, ff1, ff2, ff3, d27, hq0, hr0, hq0b] <;> first | exact ⟨rfl, rfl, rfl, rfl⟩ | rfl) ?_
    refine DrO.run (fz := []) 2 (by simp -implicitDefEqProofs [hz1, hz2, hn10, hsw, sh1, sh2, sh3, sh4, sh5, sw64, mk1, mk2, mk3, mk4, fq1, fq0, fq1b, fq0b, fm1, fm0, fs1, fs0, fr1, fr0, ff1, ff2, ff3, d27, hq0, hr0, hq0b] <;> first | exact ⟨rfl, rfl, rfl, rfl⟩ | rfl) ?_
    refine DrO.nil ⟨by kernel_rfl, ?_⟩
    refine WpC.ret ?_
    try simp only [blockQ, seqQ]
    refine retD_i (by simp -implicitDefEqProofs [hz1, hz2, hn10, hsw, sh1, sh2, sh3, sh4, sh5, sw64, mk1, mk2, mk3, mk4, fq1, fq0, fq1b, fq0b, fm1, fm0, fs1, fs0, fr1, fr0, ff1, ff2, ff3, d27, hq0, hr0, hq0b] <;> rfl) (by simp -implicitDefEqProofs [hz1, hz2, hn10, hsw, sh1, sh2, sh3, sh4, sh5, sw64, mk1, mk2, mk3, mk4, fq1, fq0, fq1b, fq0b, fm1, fm0, fs1, fs0, fr1, fr0, ff1, ff2, ff3, d27, hq0, hr0, hq0b] <;> rfl) ?_
    simp -implicitDefEqProofs [hz1, hz2, hn10, hsw, sh1, sh2, sh3, sh4, sh5, sw64, mk1, mk2, mk3, mk4, fq1, fq0, fq1b, fq0b, fm1, fm0, fs1, fs0, fr1, fr0, ff1, ff2, ff3, d27, hq0, hr0, hq0b]
  · refine WpC.skip ?_
    refine WpC.seq ?_
    refine WpC.region ?_
    refine WpO.run tabOk 1 (by simp -implicitDefEqProofs [hz1, hz2, hn10, hsw, sh1, sh2, sh3, sh4, sh5, sw64, mk1, mk2, mk3, mk4, fq1, fq0, fq1b, fq0b, fm1, fm0, fs1, fs0, fr1, fr0, ff1, ff2, ff3, d27] <;> first | exact ⟨rfl, rfl⟩ | rfl) ?_
    refine WpO.data (by simp) rfl (by simp -implicitDefEqProofs [hz1, hz2, hn10, hsw, sh1, sh2, sh3, sh4, sh5, sw64, mk1, mk2, mk3, mk4, fq1, fq0, fq1b, fq0b, fm1, fm0, fs1, fs0, fr1, fr0, ff1, ff2, ff3, d27] <;> rfl) (by simp -implicitDefEqProofs [hz1, hz2, hn10, hsw, sh1, sh2, sh3, sh4, sh5, sw64, mk1, mk2, mk3, mk4, fq1, fq0, fq1b, fq0b, fm1, fm0, fs1, fs0, fr1, fr0, ff1, ff2, ff3, d27] <;> rfl) (by simp -implicitDefEqProofs [hz1, hz2, hn10, hsw, sh1, sh2, sh3, sh4, sh5, sw64, mk1, mk2, mk3, mk4, fq1, fq0, fq1b, fq0b, fm1, fm0, fs1, fs0, fr1, fr0, ff1, ff2, ff3, d27] <;> rfl) call_44 (by simp) (hlead) (by rfl) (by simp -implicitDefEqProofs [hz1, hz2, hn10, hsw, sh1, sh2, sh3, sh4, sh5, sw64, mk1, mk2, mk3, mk4, fq1, fq0, fq1b, fq0b, fm1, fm0, fs1, fs0, fr1, fr0, ff1, ff2, ff3, d27] <;> rfl) ?_
    refine WpO.run tabOk 2 (by simp -implicitDefEqProofs [hz1, hz2, hn10, hsw, sh1, sh2, sh3, sh4, sh5, sw64, mk1, mk2, mk3, mk4, fq1, fq0, fq1b, fq0b, fm1, fm0, fs1, fs0, fr1, fr0, ff1, ff2, ff3, d27] <;> first | exact ⟨rfl, rfl⟩ | rfl) ?_
    refine WpO.nil ?_
    refine WpC.seq (WpC.ops tabOk (r := []) (by simp -implicitDefEqProofs [hz1, hz2, hn10, hsw, sh1, sh2, sh3, sh4, sh5, sw64, mk1, mk2, mk3, mk4, fq1, fq0, fq1b, fq0b, fm1, fm0, fs1, fs0, fr1, fr0, ff1, ff2, ff3, d27] <;> rfl) rfl ?_)
    refine WpC.seq (WpC.ops tabOk (r := []) (by simp -implicitDefEqProofs [hz1, hz2, hn10, hsw, sh1, sh2, sh3, sh4, sh5, sw64, mk1, mk2, mk3, mk4, fq1, fq0, fq1b, fq0b, fm1, fm0, fs1, fs0, fr1, fr0, ff1, ff2, ff3, d27] <;> rfl) rfl ?_)
    refine WpC.seq (WpC.ops tabOk (r := []) (by simp -implicitDefEqProofs [hz1, hz2, hn10, hsw, sh1, sh2, sh3, sh4, sh5, sw64, mk1, mk2, mk3, mk4, fq1, fq0, fq1b, fq0b, fm1, fm0, fs1, fs0, fr1, fr0, ff1, ff2, ff3, d27] <;> rfl) rfl ?_)
    refine WpC.seq (WpC.ops tabOk (r := []) (by simp -implicitDefEqProofs [hz1, hz2, hn10, hsw, sh1, sh2, sh3, sh4, sh5, sw64, mk1, mk2, mk3, mk4, fq1, fq0, fq1b, fq0b, fm1, fm0, fs1, fs0, fr1, fr0, ff1, ff2, ff3, d27] <;> rfl) rfl ?_)
    refine WpC.seq (WpC.ops tabOk (r := []) (by simp -implicitDefEqProofs [hz1, hz2, hn10, hsw, sh1, sh2, sh3, sh4, sh5, sw64, mk1, mk2, mk3, mk4, fq1, fq0, fq1b, fq0b, fm1, fm0, fs1, fs0, fr1, fr0, ff1, ff2, ff3, d27] <;> rfl) rfl ?_)
    refine WpC.seq (WpC.ops tabOk (r := []) (by simp -implicitDefEqProofs [hz1, hz2, hn10, hsw, sh1, sh2, sh3, sh4, sh5, sw64, mk1, mk2, mk3, mk4, fq1, fq0, fq1b, fq0b, fm1, fm0, fs1, fs0, fr1, fr0, ff1, ff2, ff3, d27] <;> rfl) rfl ?_)
    refine WpC.seq (WpC.ops tabOk (r := []) (by simp -implicitDefEqProofs [hz1, hz2, hn10, hsw, sh1, sh2, sh3, sh4, sh5, sw64, mk1, mk2, mk3, mk4, fq1, fq0, fq1b, fq0b, fm1, fm0, fs1, fs0, fr1, fr0, ff1, ff2, ff3, d27] <;> rfl) rfl ?_)
    refine WpC.seq (WpC.ops tabOk (r := []) (by simp -implicitDefEqProofs [hz1, hz2, hn10, hsw, sh1, sh2, sh3, sh4, sh5, sw64, mk1, mk2, mk3, mk4, fq1, fq0, fq1b, fq0b, fm1, fm0, fs1, fs0, fr1, fr0, ff1, ff2, ff3, d27] <;> rfl) rfl ?_)
    refine WpC.seq (WpC.ops tabOk (r := []) (by simp -implicitDefEqProofs [hz1, hz2, hn10, hsw, sh1, sh2, sh3, sh4, sh5, sw64, mk1, mk2, mk3, mk4, fq1, fq0, fq1b, fq0b, fm1, fm0, fs1, fs0, fr1, fr0, ff1, ff2, ff3, d27] <;> rfl) rfl ?_)
    refine WpC.seq ?_
    refine WpC.join ⟨[(2, .d (.int .u64 Y)), (8, .d (.int .u64 s)), (9, .d (.int .u64 n1)), (10, .d (.int .u64 n0)), (11, .d (.int .u64 u)), (13, .d (.int .u64 d1)), (14, .d (.int .u64 d0)), (15, .d (.int .u64 Q1))], [], 135, 0⟩ ?_ ?_
    · refine WpC.block ?_
      refine WpC.loopM [2, 8, 9, 10, 11, 13, 14] [15, 16] (fun x => x.1) ((b1, t1) : Nat × Nat) (fun x => [(15, .d (.int .u64 (x.1 : Nat))), (16, .d (.int .u64 (x.2 : Nat)))]) (fun x => []) (fun x => Dg n1 n0 u d1 Q1 x.1 x.2 ∧ x.2 < 4294967296) (by simp -implicitDefEqProofs [hz1, hz2, hn10, hsw, sh1, sh2, sh3, sh4, sh5, sw64, mk1, mk2, mk3, mk4, fq1, fq0, fq1b, fq0b, fm1, fm0, fs1, fs0, fr1, fr0, ff1, ff2, ff3, d27] <;> rfl) (Gh.cut' [15, 16, 2, 8, 9, 10, 11, 13, 14] 0 (by simp -implicitDefEqProofs [hz1, hz2, hn10, hsw, sh1, sh2, sh3, sh4, sh5, sw64, mk1, mk2, mk3, mk4, fq1, fq0, fq1b, fq0b, fm1, fm0, fs1, fs0, fr1, fr0, ff1, ff2, ff3, d27]) (by simp -implicitDefEqProofs [hz1, hz2, hn10, hsw, sh1, sh2, sh3, sh4, sh5, sw64, mk1, mk2, mk3, mk4, fq1, fq0, fq1b, fq0b, fm1, fm0, fs1, fs0, fr1, fr0, ff1, ff2, ff3, d27]) rfl (by simp) (by simp) (by simp)) (⟨hg1, ht1l⟩) ?_
      rintro x hi
      simp only [List.cons_append, List.nil_append]
      obtain ⟨q, r⟩ := x
      obtain ⟨hi, hrl⟩ := hi
      simp only at hi hrl ⊢
      have hqb : q ≤ u := hi.qle (by omega)
      refine WpC.seq ?_
      refine WpC.seq ?_
      refine WpC.val 78 (.d (.bool (decide (4294967296 ≤ q ∨ 4294967296 * r + d1 < q * n0)))) ?_ ?_
      · refine WpC.region ?_
        refine WpO.run tabOk 3 (by simp -implicitDefEqProofs [hz1, hz2, hn10, hsw, sh1, sh2, sh3, sh4, sh5, sw64, mk1, mk2, mk3, mk4, fq1, fq0, fq1b, fq0b, fm1, fm0, fs1, fs0, fr1, fr0, ff1, ff2, ff3, d27] <;> first | exact ⟨rfl, rfl⟩ | rfl) ?_
        refine WpO.splitB 69 (by simp -implicitDefEqProofs [hz1, hz2, hn10, hsw, sh1, sh2, sh3, sh4, sh5, sw64, mk1, mk2, mk3, mk4, fq1, fq0, fq1b, fq0b, fm1, fm0, fs1, fs0, fr1, fr0, ff1, ff2, ff3, d27] <;> rfl) (by rfl) (fun g69 => ?_) (fun g69 => ?_)
        · have g69' := g69; first | simp only [dT, dF] at g69' | try simp at g69'
          refine WpO.run tabOk 9 (by simp -implicitDefEqProofs [hz1, hz2, hn10, hsw, sh1, sh2, sh3, sh4, sh5, sw64, mk1, mk2, mk3, mk4, fq1, fq0, fq1b, fq0b, fm1, fm0, fs1, fs0, fr1, fr0, ff1, ff2, ff3, d27, g69] <;> first | exact ⟨rfl, rfl⟩ | rfl) ?_
          refine WpO.nil ?_
          refine ⟨rfl, Gh.only 78 13 ?_ (by first | rfl | simp -implicitDefEqProofs [hz1, hz2, hn10, hsw, sh1, sh2, sh3, sh4, sh5, sw64, mk1, mk2, mk3, mk4, fq1, fq0, fq1b, fq0b, fm1, fm0, fs1, fs0, fr1, fr0, ff1, ff2, ff3, d27, g69]) (by rfl)⟩
          simp -implicitDefEqProofs [hz1, hz2, hn10, hsw, sh1, sh2, sh3, sh4, sh5, sw64, mk1, mk2, mk3, mk4, fq1, fq0, fq1b, fq0b, fm1, fm0, fs1, fs0, fr1, fr0, ff1, ff2, ff3, d27, g69, g69'] <;> omega
        · have g69' := g69; first | simp only [dT, dF] at g69' | try simp at g69'
          have hql : q < 4294967296 := by simp at g69; omega
          obtain ⟨pq, hpq⟩ : ∃ p, q * n0 = p := ⟨_, rfl⟩
          have hpl : pq < 18446744073709551616 := by
            have : q * n0 ≤ 4294967296 * n0 := Nat.mul_le_mul_right _ (by omega)
            omega
          have em1 := mulU hpq hpl
          have em2 : IntKind.u64.wrap (4294967296 * (r : Int)) = 4294967296 * (r : Int) := wrapU (by omega) (by omega)
          have em3 : IntKind.u64.wrap (4294967296 * (r : Int) + d1) = 4294967296 * (r : Int) + d1 := wrapU (by omega) (by omega)
          have hqf : ¬ 4294967296 ≤ q := by omega
          have em6 : (4294967296 * (r : Int) + (d1 : Int) < (pq : Int)) = (4294967296 * r + d1 < pq) := propext ⟨fun h => by omega, fun h => by omega⟩
          refine WpO.run tabOk 9 (by simp -implicitDefEqProofs [hz1, hz2, hn10, hsw, sh1, sh2, sh3, sh4, sh5, sw64, mk1, mk2, mk3, mk4, fq1, fq0, fq1b, fq0b, fm1, fm0, fs1, fs0, fr1, fr0, ff1, ff2, ff3, d27, g69, hpq, em1, em2, em3, em6, hqf] <;> first | exact ⟨rfl, rfl⟩ | rfl) ?_
          refine WpO.nil ?_
          refine ⟨rfl, Gh.only 78 13 ?_ (by first | rfl | simp -implicitDefEqProofs [hz1, hz2, hn10, hsw, sh1, sh2, sh3, sh4, sh5, sw64, mk1, mk2, mk3, mk4, fq1, fq0, fq1b, fq0b, fm1, fm0, fs1, fs0, fr1, fr0, ff1, ff2, ff3, d27, g69, hpq, em1, em2, em3, em6, hqf]) (by rfl)⟩
          simp -implicitDefEqProofs [hz1, hz2, hn10, hsw, sh1, sh2, sh3, sh4, sh5, sw64, mk1, mk2, mk3, mk4, fq1, fq0, fq1b, fq0b, fm1, fm0, fs1, fs0, fr1, fr0, ff1, ff2, ff3, d27, g69, hpq, em1, em2, em3, em6, hqf, g69'] <;> omega
      refine WpC.condD (4294967296 ≤ q ∨ 4294967296 * r + d1 < q * n0) (by simp -implicitDefEqProofs [hz1, hz2, hn10, hsw, sh1, sh2, sh3, sh4, sh5, sw64, mk1, mk2, mk3, mk4, fq1, fq0, fq1b, fq0b, fm1, fm0, fs1, fs0, fr1, fr0, ff1, ff2, ff3, d27]) (fun d78 => ?_) (fun d78 => ?_)
      · obtain ⟨hq0, hdg⟩ := dg_dec hu' hd1hi hQ1 hi d78
        obtain ⟨q', hq'⟩ : ∃ p, q - 1 = p := ⟨_, rfl⟩
        obtain ⟨r', hr'⟩ : ∃ p, r + n1 = p := ⟨_, rfl⟩
        rw [hq', hr'] at hdg
        have em4 : IntKind.u64.wrap ((q : Int) - 1) = (q' : Int) := by rw [wrapU (by omega) (by omega)]; omega
        have em5 : IntKind.u64.wrap ((r : Int) + n1) = (r' : Int) := by rw [wrapU (by omega) (by omega)]; omega
        refine WpC.skip ?_
        refine WpC.block ?_
        refine WpC.seq (WpC.ops tabOk (r := []) (by simp -implicitDefEqProofs [hz1, hz2, hn10, hsw, sh1, sh2, sh3, sh4, sh5, sw64, mk1, mk2, mk3, mk4, fq1, fq0, fq1b, fq0b, fm1, fm0, fs1, fs0, fr1, fr0, ff1, ff2, ff3, d27, d78, em4, em5] <;> rfl) rfl ?_)
        refine WpC.seq (WpC.ops tabOk (r := []) (by simp -implicitDefEqProofs [hz1, hz2, hn10, hsw, sh1, sh2, sh3, sh4, sh5, sw64, mk1, mk2, mk3, mk4, fq1, fq0, fq1b, fq0b, fm1, fm0, fs1, fs0, fr1, fr0, ff1, ff2, ff3, d27, d78, em4, em5] <;> rfl) rfl ?_)
        refine WpC.seq (WpC.ops tabOk (r := []) (by simp -implicitDefEqProofs [hz1, hz2, hn10, hsw, sh1, sh2, sh3, sh4, sh5, sw64, mk1, mk2, mk3, mk4, fq1, fq0, fq1b, fq0b, fm1, fm0, fs1, fs0, fr1, fr0, ff1, ff2, ff3, d27, d78, em4, em5] <;> rfl) rfl ?_)
        refine WpC.condR (by simp -implicitDefEqProofs [hz1, hz2, hn10, hsw, sh1, sh2, sh3, sh4, sh5, sw64, mk1, mk2, mk3, mk4, fq1, fq0, fq1b, fq0b, fm1, fm0, fs1, fs0, fr1, fr0, ff1, ff2, ff3, d27, d78, em4, em5] <;> rfl) (by rfl) (fun c85 => ?_) (fun c85 => ?_)
        · have c85' := c85; first | simp only [dT, dF] at c85' | try simp at c85'
          refine WpC.exit ?_
          first
          | (have hqq : q = Q1 := dg_end hu' hQ1 hi (by omega); subst hqq)
          | (have hqq : q' = Q1 := dg_far hu' hn0hi hQ1 hdg (by simp at c85; omega); subst hqq)
          exact ⟨rfl, Gh.cut' [2, 8, 9, 10, 11, 13, 14, 15] 0 (by simp -implicitDefEqProofs [hz1, hz2, hn10, hsw, sh1, sh2, sh3, sh4, sh5, sw64, mk1, mk2, mk3, mk4, fq1, fq0, fq1b, fq0b, fm1, fm0, fs1, fs0, fr1, fr0, ff1, ff2, ff3, d27, d78, em4, em5, c85, c85']) (by simp -implicitDefEqProofs [hz1, hz2, hn10, hsw, sh1, sh2, sh3, sh4, sh5, sw64, mk1, mk2, mk3, mk4, fq1, fq0, fq1b, fq0b, fm1, fm0, fs1, fs0, fr1, fr0, ff1, ff2, ff3, d27, d78, em4, em5, c85, c85']) rfl (by simp) (by simp) (by simp)⟩
        · have c85' := c85; first | simp only [dT, dF] at c85' | try simp at c85'
          refine WpC.skip ?_
          exact ⟨(q', r'), ⟨hdg, by simp at c85; show r' < _; omega⟩, by show q' < q; omega, Gh.cut' [15, 16, 2, 8, 9, 10, 11, 13, 14] 0 (by simp -implicitDefEqProofs [hz1, hz2, hn10, hsw, sh1, sh2, sh3, sh4, sh5, sw64, mk1, mk2, mk3, mk4, fq1, fq0, fq1b, fq0b, fm1, fm0, fs1, fs0, fr1, fr0, ff1, ff2, ff3, d27, d78, em4, em5, c85, c85']) (by simp) rfl (by simp) (by simp) (by simp)⟩
      · refine WpC.exit ?_
        first
        | (have hqq : q = Q1 := dg_end hu' hQ1 hi (by omega); subst hqq)
        | (have hqq : q' = Q1 := dg_far hu' hn0hi hQ1 hdg (by simp at c85; omega); subst hqq)
        exact ⟨rfl, Gh.cut' [2, 8, 9, 10, 11, 13, 14, 15] 0 (by simp -implicitDefEqProofs [hz1, hz2, hn10, hsw, sh1, sh2, sh3, sh4, sh5, sw64, mk1, mk2, mk3, mk4, fq1, fq0, fq1b, fq0b, fm1, fm0, fs1, fs0, fr1, fr0, ff1, ff2, ff3, d27, d78]) (by simp -implicitDefEqProofs [hz1, hz2, hn10, hsw, sh1, sh2, sh3, sh4, sh5, sw64, mk1, mk2, mk3, mk4, fq1, fq0, fq1b, fq0b, fm1, fm0, fs1, fs0, fr1, fr0, ff1, ff2, ff3, d27, d78]) rfl (by simp) (by simp) (by simp)⟩
    · refine WpC.seq (WpC.ops tabOk (r := []) (by simp -implicitDefEqProofs [hz1, hz2, hn10, hsw, sh1, sh2, sh3, sh4, sh5, sw64, mk1, mk2, mk3, mk4, fq1, fq0, fq1b, fq0b, fm1, fm0, fs1, fs0, fr1, fr0, ff1, ff2, ff3, d27] <;> rfl) rfl ?_)
      refine WpC.seq (WpC.ops tabOk (r := []) (by simp -implicitDefEqProofs [hz1, hz2, hn10, hsw, sh1, sh2, sh3, sh4, sh5, sw64, mk1, mk2, mk3, mk4, fq1, fq0, fq1b, fq0b, fm1, fm0, fs1, fs0, fr1, fr0, ff1, ff2, ff3, d27] <;> rfl) rfl ?_)
      refine WpC.seq (WpC.ops tabOk (r := []) (by simp -implicitDefEqProofs [hz1, hz2, hn10, hsw, sh1, sh2, sh3, sh4, sh5, sw64, mk1, mk2, mk3, mk4, fq1, fq0, fq1b, fq0b, fm1, fm0, fs1, fs0, fr1, fr0, ff1, ff2, ff3, d27] <;> rfl) rfl ?_)
      refine WpC.seq ?_
      refine WpC.join ⟨[(2, .d (.int .u64 Y)), (8, .d (.int .u64 s)), (14, .d (.int .u64 d0)), (15, .d (.int .u64 Q1)), (17, .d (.int .u64 r1)), (18, .d (.int .u64 Q0))], [], 135, 0⟩ ?_ ?_
      · refine WpC.block ?_
        refine WpC.loopM [2, 8, 9, 10, 14, 15, 17] [16, 18] (fun x => x.1) ((b0, t0) : Nat × Nat) (fun x => [(16, .d (.int .u64 (x.2 : Nat))), (18, .d (.int .u64 (x.1 : Nat)))]) (fun x => []) (fun x => Dg n1 n0 r1 d0 Q0 x.1 x.2 ∧ x.2 < 4294967296) (by simp -implicitDefEqProofs [hz1, hz2, hn10, hsw, sh1, sh2, sh3, sh4, sh5, sw64, mk1, mk2, mk3, mk4, fq1, fq0, fq1b, fq0b, fm1, fm0, fs1, fs0, fr1, fr0, ff1, ff2, ff3, d27] <;> rfl) (Gh.cut' [16, 18, 2, 8, 9, 10, 14, 15, 17] 0 (by simp -implicitDefEqProofs [hz1, hz2, hn10, hsw, sh1, sh2, sh3, sh4, sh5, sw64, mk1, mk2, mk3, mk4, fq1, fq0, fq1b, fq0b, fm1, fm0, fs1, fs0, fr1, fr0, ff1, ff2, ff3, d27]) (by simp -implicitDefEqProofs [hz1, hz2, hn10, hsw, sh1, sh2, sh3, sh4, sh5, sw64, mk1, mk2, mk3, mk4, fq1, fq0, fq1b, fq0b, fm1, fm0, fs1, fs0, fr1, fr0, ff1, ff2, ff3, d27]) rfl (by simp) (by simp) (by simp)) (⟨hg0, ht0l⟩) ?_
        rintro x hi
        simp only [List.cons_append, List.nil_append]
        obtain ⟨q, r⟩ := x
        obtain ⟨hi, hrl⟩ := hi
        simp only at hi hrl ⊢
        have hqb : q ≤ r1 := hi.qle (by omega)
        refine WpC.seq ?_
        refine WpC.seq ?_
        refine WpC.val 113 (.d (.bool (decide (4294967296 ≤ q ∨ 4294967296 * r + d0 < q * n0)))) ?_ ?_
        · refine WpC.region ?_
          refine WpO.run tabOk 3 (by simp -implicitDefEqProofs [hz1, hz2, hn10, hsw, sh1, sh2, sh3, sh4, sh5, sw64, mk1, mk2, mk3, mk4, fq1, fq0, fq1b, fq0b, fm1, fm0, fs1, fs0, fr1, fr0, ff1, ff2, ff3, d27] <;> first | exact ⟨rfl, rfl⟩ | rfl) ?_
          refine WpO.splitB 104 (by simp -implicitDefEqProofs [hz1, hz2, hn10, hsw, sh1, sh2, sh3, sh4, sh5, sw64, mk1, mk2, mk3, mk4, fq1, fq0, fq1b, fq0b, fm1, fm0, fs1, fs0, fr1, fr0, ff1, ff2, ff3, d27] <;> rfl) (by rfl) (fun g104 => ?_) (fun g104 => ?_)
          · have g104' := g104; first | simp only [dT, dF] at g104' | try simp at g104'
            refine WpO.run tabOk 9 (by simp -implicitDefEqProofs [hz1, hz2, hn10, hsw, sh1, sh2, sh3, sh4, sh5, sw64, mk1, mk2, mk3, mk4, fq1, fq0, fq1b, fq0b, fm1, fm0, fs1, fs0, fr1, fr0, ff1, ff2, ff3, d27, g104] <;> first | exact ⟨rfl, rfl⟩ | rfl) ?_
            refine WpO.nil ?_
            refine ⟨rfl, Gh.only 113 13 ?_ (by first | rfl | simp -implicitDefEqProofs [hz1, hz2, hn10, hsw, sh1, sh2, sh3, sh4, sh5, sw64, mk1, mk2, mk3, mk4, fq1, fq0, fq1b, fq0b, fm1, fm0, fs1, fs0, fr1, fr0, ff1, ff2, ff3, d27, g104]) (by rfl)⟩
            simp -implicitDefEqProofs [hz1, hz2, hn10, hsw, sh1, sh2, sh3, sh4, sh5, sw64, mk1, mk2, mk3, mk4, fq1, fq0, fq1b, fq0b, fm1, fm0, fs1, fs0, fr1, fr0, ff1, ff2, ff3, d27, g104, g104'] <;> omega
          · have g104' := g104; first | simp only [dT, dF] at g104' | try simp at g104'
            have hql : q < 4294967296 := by simp at g104; omega
            obtain ⟨pq, hpq⟩ : ∃ p, q * n0 = p := ⟨_, rfl⟩
            have hpl : pq < 18446744073709551616 := by
              have : q * n0 ≤ 4294967296 * n0 := Nat.mul_le_mul_right _ (by omega)
              omega
            have em1 := mulU hpq hpl
            have em2 : IntKind.u64.wrap (4294967296 * (r : Int)) = 4294967296 * (r : Int) := wrapU (by omega) (by omega)
            have em3 : IntKind.u64.wrap (4294967296 * (r : Int) + d0) = 4294967296 * (r : Int) + d0 := wrapU (by omega) (by omega)
            have hqf : ¬ 4294967296 ≤ q := by omega
            have em6 : (4294967296 * (r : Int) + (d0 : Int) < (pq : Int)) = (4294967296 * r + d0 < pq) := propext ⟨fun h => by omega, fun h => by omega⟩
            refine WpO.run tabOk 9 (by simp -implicitDefEqProofs [hz1, hz2, hn10, hsw, sh1, sh2, sh3, sh4, sh5, sw64, mk1, mk2, mk3, mk4, fq1, fq0, fq1b, fq0b, fm1, fm0, fs1, fs0, fr1, fr0, ff1, ff2, ff3, d27, g104, hpq, em1, em2, em3, em6, hqf] <;> first | exact ⟨rfl, rfl⟩ | rfl) ?_
            refine WpO.nil ?_
            refine ⟨rfl, Gh.only 113 13 ?_ (by first | rfl | simp -implicitDefEqProofs [hz1, hz2, hn10, hsw, sh1, sh2, sh3, sh4, sh5, sw64, mk1, mk2, mk3, mk4, fq1, fq0, fq1b, fq0b, fm1, fm0, fs1, fs0, fr1, fr0, ff1, ff2, ff3, d27, g104, hpq, em1, em2, em3, em6, hqf]) (by rfl)⟩
            simp -implicitDefEqProofs [hz1, hz2, hn10, hsw, sh1, sh2, sh3, sh4, sh5, sw64, mk1, mk2, mk3, mk4, fq1, fq0, fq1b, fq0b, fm1, fm0, fs1, fs0, fr1, fr0, ff1, ff2, ff3, d27, g104, hpq, em1, em2, em3, em6, hqf, g104'] <;> omega
        refine WpC.condD (4294967296 ≤ q ∨ 4294967296 * r + d0 < q * n0) (by simp -implicitDefEqProofs [hz1, hz2, hn10, hsw, sh1, sh2, sh3, sh4, sh5, sw64, mk1, mk2, mk3, mk4, fq1, fq0, fq1b, fq0b, fm1, fm0, fs1, fs0, fr1, fr0, ff1, ff2, ff3, d27]) (fun d113 => ?_) (fun d113 => ?_)
        · obtain ⟨hq0, hdg⟩ := dg_dec hr1' hd0hi hQ0 hi d113
          obtain ⟨q', hq'⟩ : ∃ p, q - 1 = p := ⟨_, rfl⟩
          obtain ⟨r', hr'⟩ : ∃ p, r + n1 = p := ⟨_, rfl⟩
          rw [hq', hr'] at hdg
          have em4 : IntKind.u64.wrap ((q : Int) - 1) = (q' : Int) := by rw [wrapU (by omega) (by omega)]; omega
          have em5 : IntKind.u64.wrap ((r : Int) + n1) = (r' : Int) := by rw [wrapU (by omega) (by omega)]; omega
          refine WpC.skip ?_
          refine WpC.block ?_
          refine WpC.seq (WpC.ops tabOk (r := []) (by simp -implicitDefEqProofs [hz1, hz2, hn10, hsw, sh1, sh2, sh3, sh4, sh5, sw64, mk1, mk2, mk3, mk4, fq1, fq0, fq1b, fq0b, fm1, fm0, fs1, fs0, fr1, fr0, ff1, ff2, ff3, d27, d113, em4, em5] <;> rfl) rfl ?_)
          refine WpC.seq (WpC.ops tabOk (r := []) (by simp -implicitDefEqProofs [hz1, hz2, hn10, hsw, sh1, sh2, sh3, sh4, sh5, sw64, mk1, mk2, mk3, mk4, fq1, fq0, fq1b, fq0b, fm1, fm0, fs1, fs0, fr1, fr0, ff1, ff2, ff3, d27, d113, em4, em5] <;> rfl) rfl ?_)
          refine WpC.seq (WpC.ops tabOk (r := []) (by simp -implicitDefEqProofs [hz1, hz2, hn10, hsw, sh1, sh2, sh3, sh4, sh5, sw64, mk1, mk2, mk3, mk4, fq1, fq0, fq1b, fq0b, fm1, fm0, fs1, fs0, fr1, fr0, ff1, ff2, ff3, d27, d113, em4, em5] <;> rfl) rfl ?_)
          refine WpC.condR (by simp -implicitDefEqProofs [hz1, hz2, hn10, hsw, sh1, sh2, sh3, sh4, sh5, sw64, mk1, mk2, mk3, mk4, fq1, fq0, fq1b, fq0b, fm1, fm0, fs1, fs0, fr1, fr0, ff1, ff2, ff3, d27, d113, em4, em5] <;> rfl) (by rfl) (fun c120 => ?_) (fun c120 => ?_)
          · have c120' := c120; first | simp only [dT, dF] at c120' | try simp at c120'
            refine WpC.exit ?_
            first
            | (have hqq : q = Q0 := dg_end hr1' hQ0 hi (by omega); subst hqq)
            | (have hqq : q' = Q0 := dg_far hr1' hn0hi hQ0 hdg (by simp at c120; omega); subst hqq)
            exact ⟨rfl, Gh.cut' [2, 8, 14, 15, 17, 18] 0 (by simp -implicitDefEqProofs [hz1, hz2, hn10, hsw, sh1, sh2, sh3, sh4, sh5, sw64, mk1, mk2, mk3, mk4, fq1, fq0, fq1b, fq0b, fm1, fm0, fs1, fs0, fr1, fr0, ff1, ff2, ff3, d27, d113, em4, em5, c120, c120']) (by simp -implicitDefEqProofs [hz1, hz2, hn10, hsw, sh1, sh2, sh3, sh4, sh5, sw64, mk1, mk2, mk3, mk4, fq1, fq0, fq1b, fq0b, fm1, fm0, fs1, fs0, fr1, fr0, ff1, ff2, ff3, d27, d113, em4, em5, c120, c120']) rfl (by simp) (by simp) (by simp)⟩
          · have c120' := c120; first | simp only [dT, dF] at c120' | try simp at c120'
            refine WpC.skip ?_
            exact ⟨(q', r'), ⟨hdg, by simp at c120; show r' < _; omega⟩, by show q' < q; omega, Gh.cut' [16, 18, 2, 8, 9, 10, 14, 15, 17] 0 (by simp -implicitDefEqProofs [hz1, hz2, hn10, hsw, sh1, sh2, sh3, sh4, sh5, sw64, mk1, mk2, mk3, mk4, fq1, fq0, fq1b, fq0b, fm1, fm0, fs1, fs0, fr1, fr0, ff1, ff2, ff3, d27, d113, em4, em5, c120, c120']) (by simp) rfl (by simp) (by simp) (by simp)⟩
        · refine WpC.exit ?_
          first
          | (have hqq : q = Q0 := dg_end hr1' hQ0 hi (by omega); subst hqq)
          | (have hqq : q' = Q0 := dg_far hr1' hn0hi hQ0 hdg (by simp at c120; omega); subst hqq)
          exact ⟨rfl, Gh.cut' [2, 8, 14, 15, 17, 18] 0 (by simp -implicitDefEqProofs [hz1, hz2, hn10, hsw, sh1, sh2, sh3, sh4, sh5, sw64, mk1, mk2, mk3, mk4, fq1, fq0, fq1b, fq0b, fm1, fm0, fs1, fs0, fr1, fr0, ff1, ff2, ff3, d27, d113]) (by simp -implicitDefEqProofs [hz1, hz2, hn10, hsw, sh1, sh2, sh3, sh4, sh5, sw64, mk1, mk2, mk3, mk4, fq1, fq0, fq1b, fq0b, fm1, fm0, fs1, fs0, fr1, fr0, ff1, ff2, ff3, d27, d113]) rfl (by simp) (by simp) (by simp)⟩
      · refine WpC.seq (WpC.ops tabOk (r := []) (by simp -implicitDefEqProofs [hz1, hz2, hn10, hsw, sh1, sh2, sh3, sh4, sh5, sw64, mk1, mk2, mk3, mk4, fq1, fq0, fq1b, fq0b, fm1, fm0, fs1, fs0, fr1, fr0, ff1, ff2, ff3, d27] <;> rfl) rfl ?_)
        refine WpC.ret ?_
        try simp only [blockQ, seqQ]
        refine retD_i (by simp -implicitDefEqProofs [hz1, hz2, hn10, hsw, sh1, sh2, sh3, sh4, sh5, sw64, mk1, mk2, mk3, mk4, fq1, fq0, fq1b, fq0b, fm1, fm0, fs1, fs0, fr1, fr0, ff1, ff2, ff3, d27] <;> rfl) (by simp -implicitDefEqProofs [hz1, hz2, hn10, hsw, sh1, sh2, sh3, sh4, sh5, sw64, mk1, mk2, mk3, mk4, fq1, fq0, fq1b, fq0b, fm1, fm0, fs1, fs0, fr1, fr0, ff1, ff2, ff3, d27] <;> rfl) ?_
        simp -implicitDefEqProofs [hz1, hz2, hn10, hsw, sh1, sh2, sh3, sh4, sh5, sw64, mk1, mk2, mk3, mk4, fq1, fq0, fq1b, fq0b, fm1, fm0, fs1, fs0, fr1, fr0, ff1, ff2, ff3, d27]
end Go.Proofs.Ytfbpcjkhgiickaa.Pay
