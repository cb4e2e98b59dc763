/- The texts SpH, SpI, SpA, SpB, SpC, one behind the other. No statement of the seed is proved here. -/
import Derived.Test.YtaobnhenjldjeaaMgE
/- math/bits: Div64. No statement of the seed is proved here. -/
namespace Go.Proofs.Ytaobnhenjldjeaa.Pay
open Go Go.RowKit
set_option linter.unusedVariables false
set_option linter.unusedSimpArgs false
set_option maxRecDepth 20000

theorem lead_ok (y : Nat) (h0 : 0 < y) (hy : y < 18446744073709551616) : Gives Try.prog 70 [.d (.int .u64 y)] (.d (dI (63 - y.log2 : Nat))) := by
  have hl := len64_ok y h0 hy
  have hb : y.log2 ≤ 63 := by have := (Nat.log2_lt (by omega)).2 (show y < 2 ^ 64 from hy); omega
  have hw : IntKind.i64.wrap (64 - ((y.log2 : Int) + 1)) = ((63 - y.log2 : Nat) : Int) := by rw [wrapI (by omega) (by omega)]; omega
  obtain ⟨r, hr⟩ : ∃ r, 63 - y.log2 = r := ⟨_, rfl⟩
  rw [hr] at hw ⊢
  refine Gives.enter tabOk Try.func70 rfl (by show 1 ≤ 6; decide) ?_
  simp only [Try.f70]
  refine WpC.seq (WpC.ops tabOk (r := []) (by simp -implicitDefEqProofs [hw] <;> rfl) rfl ?_)
  refine WpC.seq ?_
  refine WpC.region ?_
  refine WpO.run tabOk 1 (by simp -implicitDefEqProofs [hw] <;> first | exact ⟨rfl, rfl⟩ | rfl) ?_
  refine WpO.data (by simp) rfl (by simp -implicitDefEqProofs [hw] <;> rfl) (by simp -implicitDefEqProofs [hw] <;> rfl) (by simp -implicitDefEqProofs [hw] <;> rfl) call_69 (by simp) (hl) (by rfl) (by simp -implicitDefEqProofs [hw] <;> rfl) ?_
  refine WpO.run tabOk 2 (by simp -implicitDefEqProofs [hw] <;> first | exact ⟨rfl, rfl⟩ | rfl) ?_
  refine WpO.nil ?_
  refine WpC.ret ?_
  try simp only [blockQ, seqQ]
  refine retD_i (by simp -implicitDefEqProofs [hw] <;> rfl) (by simp -implicitDefEqProofs [hw] <;> rfl) ?_
  simp -implicitDefEqProofs [hw]

theorem quoU (a b : Nat) (ha : a < 18446744073709551616) : IntKind.u64.wrap ((a : Int).tdiv b) = ((a / b : Nat) : Int) := by
  rw [Int.tdiv_eq_ediv_of_nonneg (by omega), ← Int.natCast_ediv, wrapUm, Nat.mod_eq_of_lt (Nat.lt_of_le_of_lt (Nat.div_le_self a b) ha)]
theorem remU (a b : Nat) : (a : Int).tmod b = ((a % b : Nat) : Int) := by
  rw [Int.tmod_eq_emod_of_nonneg (by omega), ← Int.natCast_emod]
theorem orU {a b s : Nat} (hs : s ≤ 64) (h1 : a * 2 ^ s < 18446744073709551616) (h2 : b < 2 ^ s) (h3 : b < 18446744073709551616) : bits .or .u64 ((a * 2 ^ s : Nat) : Int) (b : Int) = ((a * 2 ^ s + b : Nat) : Int) := by
  rw [bits_or_u64_nat _ _ h1 h3, Nat.mul_comm, ← Nat.two_pow_add_eq_or_of_lt h2]
theorem subU {A B C r : Nat} (h : A + B = C + r) (hr : r < 18446744073709551616) : IntKind.u64.wrap (IntKind.u64.wrap (IntKind.u64.wrap (A : Int) + B) - IntKind.u64.wrap (C : Int)) = (r : Int) := by
  simp only [IntKind.wrap_u64]; omega

/-- A digit of 32 bits is looked for. -/
structure Dg (yn1 yn0 u d Q q r : Nat) : Prop where
  e : q * yn1 + r = u
  le : Q ≤ q
section
variable {yn1 yn0 u d Q q r : Nat}
theorem dg_dec (hu : u < yn1 * 4294967296 + yn0) (hd : d < 4294967296) (hQ : (u * 4294967296 + d) / (yn1 * 4294967296 + yn0) = Q) (h : Dg yn1 yn0 u d Q q r) (hc : 4294967296 ≤ q ∨ 4294967296 * r + d < q * yn0) : 0 < q ∧ Dg yn1 yn0 u d Q (q - 1) (r + yn1) := by
  obtain ⟨he, hle⟩ := h
  have hY : 0 < yn1 * 4294967296 + yn0 := by omega
  have hq : 0 < q := by
    rcases hc with hc | hc
    · omega
    · rcases Nat.eq_zero_or_pos q with rfl | h
      · simp at hc
      · exact h
  have hlt : Q < q := by
    rw [← hQ, Nat.div_lt_iff_lt_mul hY]
    rcases hc with hc | hc
    · have h1 : 4294967296 * (yn1 * 4294967296 + yn0) ≤ q * (yn1 * 4294967296 + yn0) := Nat.mul_le_mul_right _ hc
      omega
    · have h1 : q * (yn1 * 4294967296 + yn0) = q * yn1 * 4294967296 + q * yn0 := by rw [Nat.mul_add, Nat.mul_assoc]
      rw [h1]; omega
  refine ⟨hq, ?_, by omega⟩
  have h2 : (q - 1) * yn1 + yn1 = q * yn1 := by rw [← Nat.succ_mul]; congr 1; omega
  omega
theorem dg_end (hu : u < yn1 * 4294967296 + yn0) (hQ : (u * 4294967296 + d) / (yn1 * 4294967296 + yn0) = Q) (h : Dg yn1 yn0 u d Q q r) (hc : q * yn0 ≤ 4294967296 * r + d) : q = Q := by
  obtain ⟨he, hle⟩ := h
  have hY : 0 < yn1 * 4294967296 + yn0 := by omega
  have h1 : q * (yn1 * 4294967296 + yn0) = q * yn1 * 4294967296 + q * yn0 := by rw [Nat.mul_add, Nat.mul_assoc]
  have h2 : q ≤ Q := by
    rw [← hQ, Nat.le_div_iff_mul_le hY, h1]; omega
  omega
theorem dg_far (hu : u < yn1 * 4294967296 + yn0) (h0 : yn0 < 4294967296) (hQ : (u * 4294967296 + d) / (yn1 * 4294967296 + yn0) = Q) (h : Dg yn1 yn0 u d Q q r) (hr : 4294967296 ≤ r) : q = Q := by
  have h1 : q < 4294967296 := by
    rcases Nat.lt_or_ge q 4294967296 with h' | h'
    · exact h'
    · have : 4294967296 * yn1 ≤ q * yn1 := Nat.mul_le_mul_right _ h'
      have := h.e
      omega
  have h2 : q * yn0 ≤ 4294967296 * yn0 := Nat.mul_le_mul_right _ (by omega)
  exact dg_end hu hQ h (by omega)
theorem Dg.qle (h : Dg yn1 yn0 u d Q q r) (h1 : 0 < yn1) : q ≤ u := by
  have h2 := Nat.le_mul_of_pos_right q h1
  have := h.e
  omega
theorem dg_lt (hu : u < yn1 * 4294967296 + yn0) (hd : d < 4294967296) (hQ : (u * 4294967296 + d) / (yn1 * 4294967296 + yn0) = Q) : Q < 4294967296 := by
  rw [← hQ, Nat.div_lt_iff_lt_mul (by omega)]; omega
end
theorem two_gen {M u d1 d0 r1 r0 A B : Nat} (h1 : u * M + d1 = A + r1) (h0 : r1 * M + d0 = B + r0) : u * (M * M) + (d1 * M + d0) = r0 + (A * M + B) := by
  have h2 : (u * M + d1) * M = (A + r1) * M := by rw [h1]
  rw [Nat.add_mul, Nat.add_mul, Nat.mul_assoc] at h2
  omega
theorem two_lin {u d1 d0 r1 r0 A B : Nat} (h1 : u * 4294967296 + d1 = A + r1) (h0 : r1 * 4294967296 + d0 = B + r0) : u * 18446744073709551616 + (d1 * 4294967296 + d0) = r0 + (A * 4294967296 + B) := by
  have h := two_gen h1 h0
  rw [show (4294967296 : Nat) * 4294967296 = 18446744073709551616 from by decide] at h
  exact h
/-- Two digits are the quotient. -/
theorem two_digits {Y u d1 d0 Q1 r1 Q0 r0 : Nat} (hY : 0 < Y) (h1 : u * 4294967296 + d1 = Q1 * Y + r1) (h0 : r1 * 4294967296 + d0 = Q0 * Y + r0) (hr : r0 < Y) :
    (u * 18446744073709551616 + (d1 * 4294967296 + d0)) / Y = Q1 * 4294967296 + Q0 ∧ (u * 18446744073709551616 + (d1 * 4294967296 + d0)) % Y = r0 := by
  have e : u * 18446744073709551616 + (d1 * 4294967296 + d0) = r0 + (Q1 * 4294967296 + Q0) * Y := by
    have : (Q1 * 4294967296 + Q0) * Y = Q1 * Y * 4294967296 + Q0 * Y := by rw [Nat.add_mul, Nat.mul_right_comm]
    rw [this]
    exact two_lin h1 h0
  rw [e]
  exact ⟨by rw [Nat.add_mul_div_right _ _ hY, Nat.div_eq_of_lt hr, Nat.zero_add], by rw [Nat.add_mul_mod_self_right, Nat.mod_eq_of_lt hr]⟩

set_option maxHeartbeats 40000000 in
theorem div64_ok (xh lo y : Nat) (hh : xh < y) (hl : lo < 18446744073709551616) (hy : y < 18446744073709551616) :
    Gives Try.prog 47 [.d (.int .u64 xh), .d (.int .u64 lo), .d (.int .u64 y)] (.tup [.d (.int .u64 (((xh * 18446744073709551616 + lo) / y : Nat) : Int)), .d (.int .u64 (((xh * 18446744073709551616 + lo) % y : Nat) : Int))]) := by
  have hy0 : 0 < y := by omega
  have hlead := lead_ok y hy0 hy
  obtain ⟨s, hs⟩ : ∃ s, 63 - y.log2 = s := ⟨_, rfl⟩
  rw [hs] at hlead
  have hlog : y.log2 ≤ 63 := by have := (Nat.log2_lt (by omega)).2 (show y < 2 ^ 64 from hy); omega
  have hs63 : s ≤ 63 := by omega
  have hq0 := quoU lo y hl
  have hr0 := remU lo y
  have hq0b : IntKind.u64.wrap ((lo : Int) / (y : Int)) = (lo : Int) / (y : Int) := by rw [Int.tdiv_eq_ediv_of_nonneg (by omega)] at hq0; rw [hq0, Int.natCast_ediv]
  have hz1 : ¬ ((y : Int) ≤ xh) := by omega
  have hz2 : ¬ y = 0 := by omega
  have hsw : IntKind.u64.wrap (s : Int) = s := wrapU (by omega) (by omega)
  -- the divisor is moved up
  have hp : 0 < 2 ^ s := Nat.two_pow_pos s
  obtain ⟨P, hP⟩ : ∃ P, 2 ^ s = P := ⟨_, rfl⟩
  have p64 : (2 : Nat) ^ 64 = 18446744073709551616 := by decide
  have p63 : (2 : Nat) ^ 63 = 9223372036854775808 := by decide
  have hpw : 2 ^ s * 2 ^ (64 - s) = 18446744073709551616 := by rw [← Nat.pow_add, show s + (64 - s) = 64 from by omega, p64]
  obtain ⟨R, hR⟩ : ∃ R, 2 ^ (64 - s) = R := ⟨_, rfl⟩
  have hYlo : 9223372036854775808 ≤ y * 2 ^ s := by
    have h1 := Nat.log2_self_le (n := y) (by omega)
    have h2 : 2 ^ y.log2 * 2 ^ s ≤ y * 2 ^ s := Nat.mul_le_mul_right _ h1
    rw [← Nat.pow_add, show y.log2 + s = 63 from by omega, p63] at h2
    exact h2
  have hYhi : y * 2 ^ s < 18446744073709551616 := by
    have h1 := Nat.lt_log2_self (n := y)
    have h2 : y * 2 ^ s < 2 ^ (y.log2 + 1) * 2 ^ s := Nat.mul_lt_mul_of_pos_right h1 hp
    rw [← Nat.pow_add, show y.log2 + 1 + s = 64 from by omega, p64] at h2
    exact h2
  have sh1 := shlU y (k := s) (by omega)
  rw [Nat.mod_eq_of_lt hYhi] at sh1
  obtain ⟨Y, hY⟩ : ∃ Y, y * 2 ^ s = Y := ⟨_, rfl⟩
  have hhs : xh * 2 ^ s + 2 ^ s ≤ y * 2 ^ s := by
    have : (xh + 1) * 2 ^ s ≤ y * 2 ^ s := Nat.mul_le_mul_right _ hh
    rw [Nat.add_mul, Nat.one_mul] at this; exact this
  have sh2 := shlU xh (k := s) (by omega)
  rw [Nat.mod_eq_of_lt (by omega)] at sh2
  have sh3 := shrU lo (k := 64 - s) (by omega)
  have hrl : lo / 2 ^ (64 - s) < 2 ^ s := by
    rw [Nat.div_lt_iff_lt_mul (Nat.two_pow_pos _), hpw]; exact hl
  have sh4 := orU (a := xh) (b := lo / 2 ^ (64 - s)) (s := s) (by omega) (by omega) hrl (by omega)
  have sh5 := shlU lo (k := s) (by omega)
  have hlo2 : lo * 2 ^ s = lo / 2 ^ (64 - s) * 18446744073709551616 + lo * 2 ^ s % 18446744073709551616 := by
    have e1 : lo * 2 ^ s / 18446744073709551616 = lo / 2 ^ (64 - s) := by
      rw [← hpw, Nat.mul_comm lo, Nat.mul_div_mul_left _ _ hp]
    rw [← e1]; omega
  obtain ⟨u, hu⟩ : ∃ u, xh * 2 ^ s + lo / 2 ^ (64 - s) = u := ⟨_, rfl⟩
  obtain ⟨v, hv⟩ : ∃ v, lo * 2 ^ s % 18446744073709551616 = v := ⟨_, rfl⟩
  have hN : (xh * 18446744073709551616 + lo) * 2 ^ s = u * 18446744073709551616 + v := by
    rw [Nat.add_mul, Nat.mul_right_comm]; omega
  have huY : u < Y := by omega
  have hdiv : (xh * 18446744073709551616 + lo) / y = (u * 18446744073709551616 + v) / Y := by
    rw [← hN, ← hY, Nat.mul_div_mul_right _ _ hp]
  have hmod : (xh * 18446744073709551616 + lo) % y = (u * 18446744073709551616 + v) % Y / 2 ^ s := by
    rw [← hN, ← hY, Nat.mul_mod_mul_right, Nat.mul_div_cancel _ hp]
  rw [hY] at sh1 hYlo hYhi
  rw [hu] at sh4
  rw [hv] at sh5
  have hv2 : v < 18446744073709551616 := by omega
  have sw64 : IntKind.u64.wrap (64 - (s : Int)) = ((64 - s : Nat) : Int) := by rw [wrapU (by omega) (by omega)]; omega
  obtain ⟨a1, ha1⟩ : ∃ q, xh * 2 ^ s = q := ⟨_, rfl⟩
  obtain ⟨a2, ha2⟩ : ∃ q, lo / 2 ^ (64 - s) = q := ⟨_, rfl⟩
  obtain ⟨s64, hs64⟩ : ∃ q, 64 - s = q := ⟨_, rfl⟩
  rw [ha1] at sh2 sh4
  rw [ha2] at sh3 sh4
  rw [hs64] at sh3 sw64
  -- halves
  have mk1 := sh32 Y
  have mk2 := maskU Y hYhi
  have mk3 := sh32 v
  have mk4 := maskU v hv2
  obtain ⟨n1, hn1⟩ : ∃ q, Y / 4294967296 = q := ⟨_, rfl⟩
  obtain ⟨n0, hn0⟩ : ∃ q, Y % 4294967296 = q := ⟨_, rfl⟩
  obtain ⟨d1, hd1⟩ : ∃ q, v / 4294967296 = q := ⟨_, rfl⟩
  obtain ⟨d0, hd0⟩ : ∃ q, v % 4294967296 = q := ⟨_, rfl⟩
  rw [hn1] at mk1
  rw [hn0] at mk2
  rw [hd1] at mk3
  rw [hd0] at mk4
  have hYe : n1 * 4294967296 + n0 = Y := by rw [← hn1, ← hn0]; exact Nat.div_add_mod' _ _
  have hve : d1 * 4294967296 + d0 = v := by rw [← hd1, ← hd0]; exact Nat.div_add_mod' _ _
  have hn1lo : 2147483648 ≤ n1 := by omega
  have hn1hi : n1 < 4294967296 := by omega
  have hn0hi : n0 < 4294967296 := by omega
  have hn10 : ¬ n1 = 0 := by omega
  have hd1hi : d1 < 4294967296 := by omega
  have hd0hi : d0 < 4294967296 := by omega
  obtain ⟨Q1, hQ1⟩ : ∃ q, (u * 4294967296 + d1) / Y = q := ⟨_, rfl⟩
  obtain ⟨r1, hr1⟩ : ∃ q, (u * 4294967296 + d1) % Y = q := ⟨_, rfl⟩
  have hdm1 : u * 4294967296 + d1 = Q1 * Y + r1 := by rw [← hQ1, ← hr1]; exact (Nat.div_add_mod' _ _).symm
  have hr1Y : r1 < Y := by rw [← hr1]; exact Nat.mod_lt _ (by omega)
  obtain ⟨Q0, hQ0⟩ : ∃ q, (r1 * 4294967296 + d0) / Y = q := ⟨_, rfl⟩
  obtain ⟨r0, hr0'⟩ : ∃ q, (r1 * 4294967296 + d0) % Y = q := ⟨_, rfl⟩
  have hdm0 : r1 * 4294967296 + d0 = Q0 * Y + r0 := by rw [← hQ0, ← hr0']; exact (Nat.div_add_mod' _ _).symm
  have hr0Y : r0 < Y := by rw [← hr0']; exact Nat.mod_lt _ (by omega)
  obtain ⟨td1, td2⟩ := two_digits (by omega) hdm1 hdm0 hr0Y
  rw [hve] at td1 td2
  rw [td1] at hdiv
  rw [td2] at hmod
  have hu' : u < n1 * 4294967296 + n0 := by omega
  have hr1' : r1 < n1 * 4294967296 + n0 := by omega
  rw [← hYe] at hQ1 hQ0
  have hQ1l := dg_lt hu' hd1hi hQ1
  have hQ0l := dg_lt hr1' hd0hi hQ0
  have fq1 : IntKind.u64.wrap ((u : Int).tdiv n1) = ((u / n1 : Nat) : Int) := quoU u n1 (by omega)
  have fq0 : IntKind.u64.wrap ((r1 : Int).tdiv n1) = ((r1 / n1 : Nat) : Int) := quoU r1 n1 (by omega)
  obtain ⟨b1, hb1⟩ : ∃ q, u / n1 = q := ⟨_, rfl⟩
  obtain ⟨b0, hb0⟩ : ∃ q, r1 / n1 = q := ⟨_, rfl⟩
  rw [hb1] at fq1
  rw [hb0] at fq0
  have fq1b : IntKind.u64.wrap ((u : Int) / (n1 : Int)) = (b1 : Int) := by rw [Int.tdiv_eq_ediv_of_nonneg (by omega)] at fq1; exact fq1
  have fq0b : IntKind.u64.wrap ((r1 : Int) / (n1 : Int)) = (b0 : Int) := by rw [Int.tdiv_eq_ediv_of_nonneg (by omega)] at fq0; exact fq0
  have start : ∀ {w d Q b : Nat}, w < n1 * 4294967296 + n0 → d < 4294967296 → (w * 4294967296 + d) / (n1 * 4294967296 + n0) = Q → w / n1 = b → ∃ p r, b * n1 = p ∧ p < 18446744073709551616 ∧ w - p = r ∧ p ≤ w ∧ r < 4294967296 ∧ Dg n1 n0 w d Q b r := by
    intro w d Q b hw hd hQ hb
    have e1 : b * n1 + w % n1 = w := by rw [← hb]; exact Nat.div_add_mod' _ _
    have e2 : w % n1 < n1 := Nat.mod_lt _ (by omega)
    refine ⟨b * n1, w - b * n1, rfl, by omega, rfl, by omega, by omega, by omega, ?_⟩
    rw [← hQ, ← hb, Nat.le_div_iff_mul_le (by omega)]
    have e3 := Nat.div_mul_le_self (w * 4294967296 + d) (n1 * 4294967296 + n0)
    obtain ⟨q, hq⟩ : ∃ q, (w * 4294967296 + d) / (n1 * 4294967296 + n0) = q := ⟨_, rfl⟩
    rw [hq] at e3 ⊢
    have e4 : q * (n1 * 4294967296 + n0) = q * n1 * 4294967296 + q * n0 := by rw [Nat.mul_add, Nat.mul_assoc]
    omega
  obtain ⟨p1, t1, hp1, hp1l, ht1, hp1u, ht1l, hg1⟩ := start hu' hd1hi hQ1 hb1
  obtain ⟨p0, t0, hp0, hp0l, ht0, hp0u, ht0l, hg0⟩ := start hr1' hd0hi hQ0 hb0
  have fm1 := mulU hp1 hp1l
  have fm0 := mulU hp0 hp0l
  have fs1 : IntKind.u64.wrap ((u : Int) - p1) = (t1 : Int) := by rw [wrapU (by omega) (by omega)]; omega
  have fs0 : IntKind.u64.wrap ((r1 : Int) - p0) = (t0 : Int) := by rw [wrapU (by omega) (by omega)]; omega
  have fr1 : IntKind.u64.wrap (IntKind.u64.wrap (IntKind.u64.wrap ((u : Int) * 4294967296) + d1) - IntKind.u64.wrap ((Q1 : Int) * Y)) = (r1 : Int) := by
    have := subU hdm1 (by omega); rwa [Int.natCast_mul, Int.natCast_mul] at this
  have fr0 : IntKind.u64.wrap (IntKind.u64.wrap (IntKind.u64.wrap ((r1 : Int) * 4294967296) + d0) - IntKind.u64.wrap ((Q0 : Int) * Y)) = (r0 : Int) := by
    have := subU hdm0 (by omega); rwa [Int.natCast_mul, Int.natCast_mul] at this
  obtain ⟨z1, hz1'⟩ : ∃ q, Q1 * 4294967296 = q := ⟨_, rfl⟩
  have ff1 : IntKind.u64.wrap ((Q1 : Int) * 4294967296) = (z1 : Int) := mulU (b := 4294967296) hz1' (by omega)
  obtain ⟨z, hz'⟩ : ∃ q, z1 + Q0 = q := ⟨_, rfl⟩
  have ff2 := addU hz' (by omega)
  have ff3 := shrU r0 (k := s) (by omega)
  have hz3 : (s : Int).toNat = s := by omega
  rw [hdiv, hmod, hz1', hz']
  obtain ⟨rr, hrr⟩ : ∃ q, r0 / 2 ^ s = q := ⟨_, rfl⟩
  rw [hrr] at ff3 ⊢
  refine Gives.enter tabOk Try.func47 rfl (by show 3 ≤ 135; decide) ?_
  simp only [Try.f47]
  refine WpC.seq (WpC.ops tabOk (r := []) (by simp -implicitDefEqProofs [hz1, hz2, hn10, hsw, sh1, sh2, sh3, sh4, sh5, sw64, mk1, mk2, mk3, mk4, fq1, fq0, fq1b, fq0b, fm1, fm0, fs1, fs0, fr1, fr0, ff1, ff2, ff3] <;> rfl) rfl ?_)
  refine WpC.seq ?_
  refine WpC.seq (WpC.ops tabOk (r := []) (by simp -implicitDefEqProofs [hz1, hz2, hn10, hsw, sh1, sh2, sh3, sh4, sh5, sw64, mk1, mk2, mk3, mk4, fq1, fq0, fq1b, fq0b, fm1, fm0, fs1, fs0, fr1, fr0, ff1, ff2, ff3] <;> rfl) rfl ?_)
  refine WpC.condF (by simp -implicitDefEqProofs [hz1, hz2, hn10, hsw, sh1, sh2, sh3, sh4, sh5, sw64, mk1, mk2, mk3, mk4, fq1, fq0, fq1b, fq0b, fm1, fm0, fs1, fs0, fr1, fr0, ff1, ff2, ff3] <;> rfl) ?_
  refine WpC.skip ?_
  refine WpC.seq ?_
  refine WpC.seq (WpC.ops tabOk (r := []) (by simp -implicitDefEqProofs [hz1, hz2, hn10, hsw, sh1, sh2, sh3, sh4, sh5, sw64, mk1, mk2, mk3, mk4, fq1, fq0, fq1b, fq0b, fm1, fm0, fs1, fs0, fr1, fr0, ff1, ff2, ff3] <;> rfl) rfl ?_)
  refine WpC.condF (by simp -implicitDefEqProofs [hz1, hz2, hn10, hsw, sh1, sh2, sh3, sh4, sh5, sw64, mk1, mk2, mk3, mk4, fq1, fq0, fq1b, fq0b, fm1, fm0, fs1, fs0, fr1, fr0, ff1, ff2, ff3] <;> rfl) ?_
  refine WpC.skip ?_
  refine WpC.seq ?_
  refine WpC.seq (WpC.ops tabOk (r := []) (by simp -implicitDefEqProofs [hz1, hz2, hn10, hsw, sh1, sh2, sh3, sh4, sh5, sw64, mk1, mk2, mk3, mk4, fq1, fq0, fq1b, fq0b, fm1, fm0, fs1, fs0, fr1, fr0, ff1, ff2, ff3] <;> rfl) rfl ?_)
  refine WpC.condD (xh = 0) (by simp -implicitDefEqProofs [hz1, hz2, hn10, hsw, sh1, sh2, sh3, sh4, sh5, sw64, mk1, mk2, mk3, mk4, fq1, fq0, fq1b, fq0b, fm1, fm0, fs1, fs0, fr1, fr0, ff1, ff2, ff3]) (fun d27 => ?_) (fun d27 => ?_)
  · have hd2 : (xh * 18446744073709551616 + lo) / y = lo / y := by rw [d27, Nat.zero_mul, Nat.zero_add]
    have hm2 : (xh * 18446744073709551616 + lo) % y = lo % y := by rw [d27, Nat.zero_mul, Nat.zero_add]
    have hd3 : z = lo / y := by rw [← hd2, hdiv, hz1', hz']
    have hm3 : rr = lo % y := by rw [← hm2, hmod, hrr]
    rw [hd3, hm3]
    refine WpC.seq (WpC.drawn tabOk (by kernel_rfl) 0 (by simp) ?_)
    refine DrO.run (fz := []) 3 (by simp -implicitDefEqProofs [hz1, hz2, hn10, hsw, sh1, sh2, sh3, sh4, sh5, sw64, mk1, mk2, mk3, mk4, fq1, fq0, fq1b, fq0b, fm1, fm0, fs1, fs0, fr1, fr0, ff1, ff2, ff3, d27, hq0, hr0, hq0b] <;> first | exact ⟨rfl, rfl, rfl, rfl⟩ | rfl) ?_
    refine DrO.run (fz := []) 3 (by simp -implicitDefEqProofs [hz1, hz2, hn10, hsw, sh1, sh2, sh3, sh4, sh5, sw64, mk1, mk2, mk3, mk4, fq1, fq0, fq1b, fq0b, fm1, fm0, fs1, fs0, fr1, fr0, ff1, ff2, ff3, d27, hq0, hr0, hq0b] <;> first | exact ⟨rfl, rfl, rfl, rfl⟩ | rfl) ?_
    refine DrO.run (fz := []) 2 (by simp -implicitDefEqProofs [hz1, hz2, hn10, hsw, sh1, sh2, sh3, sh4, sh5, sw64, mk1, mk2, mk3, mk4, fq1, fq0, fq1b, fq0b, fm1, fm0, fs1, fs0, fr1, fr0, ff1, ff2, ff3, d27, hq0, hr0, hq0b] <;> first | exact ⟨rfl, rfl, rfl, rfl⟩ | rfl) ?_
    refine DrO.nil ⟨by kernel_rfl, ?_⟩
    refine WpC.ret ?_
    try simp only [blockQ, seqQ]
    refine retD_i (by simp -implicitDefEqProofs [hz1, hz2, hn10, hsw, sh1, sh2, sh3, sh4, sh5, sw64, mk1, mk2, mk3, mk4, fq1, fq0, fq1b, fq0b, fm1, fm0, fs1, fs0, fr1, fr0, ff1, ff2, ff3, d27, hq0, hr0, hq0b] <;> rfl) (by simp -implicitDefEqProofs [hz1, hz2, hn10, hsw, sh1, sh2, sh3, sh4, sh5, sw64, mk1, mk2, mk3, mk4, fq1, fq0, fq1b, fq0b, fm1, fm0, fs1, fs0, fr1, fr0, ff1, ff2, ff3, d27, hq0, hr0, hq0b] <;> rfl) ?_
    simp -implicitDefEqProofs [hz1, hz2, hn10, hsw, sh1, sh2, sh3, sh4, sh5, sw64, mk1, mk2, mk3, mk4, fq1, fq0, fq1b, fq0b, fm1, fm0, fs1, fs0, fr1, fr0, ff1, ff2, ff3, d27, hq0, hr0, hq0b]
  · refine WpC.skip ?_
    refine WpC.seq ?_
    refine WpC.region ?_
    refine WpO.run tabOk 1 (by simp -implicitDefEqProofs [hz1, hz2, hn10, hsw, sh1, sh2, sh3, sh4, sh5, sw64, mk1, mk2, mk3, mk4, fq1, fq0, fq1b, fq0b, fm1, fm0, fs1, fs0, fr1, fr0, ff1, ff2, ff3, d27] <;> first | exact ⟨rfl, rfl⟩ | rfl) ?_
    refine WpO.data (by simp) rfl (by simp -implicitDefEqProofs [hz1, hz2, hn10, hsw, sh1, sh2, sh3, sh4, sh5, sw64, mk1, mk2, mk3, mk4, fq1, fq0, fq1b, fq0b, fm1, fm0, fs1, fs0, fr1, fr0, ff1, ff2, ff3, d27] <;> rfl) (by simp -implicitDefEqProofs [hz1, hz2, hn10, hsw, sh1, sh2, sh3, sh4, sh5, sw64, mk1, mk2, mk3, mk4, fq1, fq0, fq1b, fq0b, fm1, fm0, fs1, fs0, fr1, fr0, ff1, ff2, ff3, d27] <;> rfl) (by simp -implicitDefEqProofs [hz1, hz2, hn10, hsw, sh1, sh2, sh3, sh4, sh5, sw64, mk1, mk2, mk3, mk4, fq1, fq0, fq1b, fq0b, fm1, fm0, fs1, fs0, fr1, fr0, ff1, ff2, ff3, d27] <;> rfl) call_70 (by simp) (hlead) (by rfl) (by simp -implicitDefEqProofs [hz1, hz2, hn10, hsw, sh1, sh2, sh3, sh4, sh5, sw64, mk1, mk2, mk3, mk4, fq1, fq0, fq1b, fq0b, fm1, fm0, fs1, fs0, fr1, fr0, ff1, ff2, ff3, d27] <;> rfl) ?_
    refine WpO.run tabOk 2 (by simp -implicitDefEqProofs [hz1, hz2, hn10, hsw, sh1, sh2, sh3, sh4, sh5, sw64, mk1, mk2, mk3, mk4, fq1, fq0, fq1b, fq0b, fm1, fm0, fs1, fs0, fr1, fr0, ff1, ff2, ff3, d27] <;> first | exact ⟨rfl, rfl⟩ | rfl) ?_
    refine WpO.nil ?_
    refine WpC.seq (WpC.ops tabOk (r := []) (by simp -implicitDefEqProofs [hz1, hz2, hn10, hsw, sh1, sh2, sh3, sh4, sh5, sw64, mk1, mk2, mk3, mk4, fq1, fq0, fq1b, fq0b, fm1, fm0, fs1, fs0, fr1, fr0, ff1, ff2, ff3, d27] <;> rfl) rfl ?_)
    refine WpC.seq (WpC.ops tabOk (r := []) (by simp -implicitDefEqProofs [hz1, hz2, hn10, hsw, sh1, sh2, sh3, sh4, sh5, sw64, mk1, mk2, mk3, mk4, fq1, fq0, fq1b, fq0b, fm1, fm0, fs1, fs0, fr1, fr0, ff1, ff2, ff3, d27] <;> rfl) rfl ?_)
    refine WpC.seq (WpC.ops tabOk (r := []) (by simp -implicitDefEqProofs [hz1, hz2, hn10, hsw, sh1, sh2, sh3, sh4, sh5, sw64, mk1, mk2, mk3, mk4, fq1, fq0, fq1b, fq0b, fm1, fm0, fs1, fs0, fr1, fr0, ff1, ff2, ff3, d27] <;> rfl) rfl ?_)
    refine WpC.seq (WpC.ops tabOk (r := []) (by simp -implicitDefEqProofs [hz1, hz2, hn10, hsw, sh1, sh2, sh3, sh4, sh5, sw64, mk1, mk2, mk3, mk4, fq1, fq0, fq1b, fq0b, fm1, fm0, fs1, fs0, fr1, fr0, ff1, ff2, ff3, d27] <;> rfl) rfl ?_)
    refine WpC.seq (WpC.ops tabOk (r := []) (by simp -implicitDefEqProofs [hz1, hz2, hn10, hsw, sh1, sh2, sh3, sh4, sh5, sw64, mk1, mk2, mk3, mk4, fq1, fq0, fq1b, fq0b, fm1, fm0, fs1, fs0, fr1, fr0, ff1, ff2, ff3, d27] <;> rfl) rfl ?_)
    refine WpC.seq (WpC.ops tabOk (r := []) (by simp -implicitDefEqProofs [hz1, hz2, hn10, hsw, sh1, sh2, sh3, sh4, sh5, sw64, mk1, mk2, mk3, mk4, fq1, fq0, fq1b, fq0b, fm1, fm0, fs1, fs0, fr1, fr0, ff1, ff2, ff3, d27] <;> rfl) rfl ?_)
    refine WpC.seq (WpC.ops tabOk (r := []) (by simp -implicitDefEqProofs [hz1, hz2, hn10, hsw, sh1, sh2, sh3, sh4, sh5, sw64, mk1, mk2, mk3, mk4, fq1, fq0, fq1b, fq0b, fm1, fm0, fs1, fs0, fr1, fr0, ff1, ff2, ff3, d27] <;> rfl) rfl ?_)
    refine WpC.seq (WpC.ops tabOk (r := []) (by simp -implicitDefEqProofs [hz1, hz2, hn10, hsw, sh1, sh2, sh3, sh4, sh5, sw64, mk1, mk2, mk3, mk4, fq1, fq0, fq1b, fq0b, fm1, fm0, fs1, fs0, fr1, fr0, ff1, ff2, ff3, d27] <;> rfl) rfl ?_)
    refine WpC.seq (WpC.ops tabOk (r := []) (by simp -implicitDefEqProofs [hz1, hz2, hn10, hsw, sh1, sh2, sh3, sh4, sh5, sw64, mk1, mk2, mk3, mk4, fq1, fq0, fq1b, fq0b, fm1, fm0, fs1, fs0, fr1, fr0, ff1, ff2, ff3, d27] <;> rfl) rfl ?_)
    refine WpC.seq ?_
    refine WpC.join ⟨[(2, .d (.int .u64 Y)), (8, .d (.int .u64 s)), (9, .d (.int .u64 n1)), (10, .d (.int .u64 n0)), (11, .d (.int .u64 u)), (13, .d (.int .u64 d1)), (14, .d (.int .u64 d0)), (15, .d (.int .u64 Q1))], [], 135, 0⟩ ?_ ?_
    · refine WpC.block ?_
      refine WpC.loopM [2, 8, 9, 10, 11, 13, 14] [15, 16] (fun x => x.1) ((b1, t1) : Nat × Nat) (fun x => [(15, .d (.int .u64 (x.1 : Nat))), (16, .d (.int .u64 (x.2 : Nat)))]) (fun x => []) (fun x => Dg n1 n0 u d1 Q1 x.1 x.2 ∧ x.2 < 4294967296) (by simp -implicitDefEqProofs [hz1, hz2, hn10, hsw, sh1, sh2, sh3, sh4, sh5, sw64, mk1, mk2, mk3, mk4, fq1, fq0, fq1b, fq0b, fm1, fm0, fs1, fs0, fr1, fr0, ff1, ff2, ff3, d27] <;> rfl) (Gh.cut' [15, 16, 2, 8, 9, 10, 11, 13, 14] 0 (by simp -implicitDefEqProofs [hz1, hz2, hn10, hsw, sh1, sh2, sh3, sh4, sh5, sw64, mk1, mk2, mk3, mk4, fq1, fq0, fq1b, fq0b, fm1, fm0, fs1, fs0, fr1, fr0, ff1, ff2, ff3, d27]) (by simp -implicitDefEqProofs [hz1, hz2, hn10, hsw, sh1, sh2, sh3, sh4, sh5, sw64, mk1, mk2, mk3, mk4, fq1, fq0, fq1b, fq0b, fm1, fm0, fs1, fs0, fr1, fr0, ff1, ff2, ff3, d27]) rfl (by simp) (by simp) (by simp)) (⟨hg1, ht1l⟩) ?_
      rintro x hi
      simp only [List.cons_append, List.nil_append]
      obtain ⟨q, r⟩ := x
      obtain ⟨hi, hrl⟩ := hi
      simp only at hi hrl ⊢
      have hqb : q ≤ u := hi.qle (by omega)
      refine WpC.seq ?_
      refine WpC.seq ?_
      refine WpC.val 78 (.d (.bool (decide (4294967296 ≤ q ∨ 4294967296 * r + d1 < q * n0)))) ?_ ?_
      · refine WpC.region ?_
        refine WpO.run tabOk 3 (by simp -implicitDefEqProofs [hz1, hz2, hn10, hsw, sh1, sh2, sh3, sh4, sh5, sw64, mk1, mk2, mk3, mk4, fq1, fq0, fq1b, fq0b, fm1, fm0, fs1, fs0, fr1, fr0, ff1, ff2, ff3, d27] <;> first | exact ⟨rfl, rfl⟩ | rfl) ?_
        refine WpO.splitB 69 (by simp -implicitDefEqProofs [hz1, hz2, hn10, hsw, sh1, sh2, sh3, sh4, sh5, sw64, mk1, mk2, mk3, mk4, fq1, fq0, fq1b, fq0b, fm1, fm0, fs1, fs0, fr1, fr0, ff1, ff2, ff3, d27] <;> rfl) (by rfl) (fun g69 => ?_) (fun g69 => ?_)
        · have g69' := g69; first | simp only [dT, dF] at g69' | try simp at g69'
          refine WpO.run tabOk 9 (by simp -implicitDefEqProofs [hz1, hz2, hn10, hsw, sh1, sh2, sh3, sh4, sh5, sw64, mk1, mk2, mk3, mk4, fq1, fq0, fq1b, fq0b, fm1, fm0, fs1, fs0, fr1, fr0, ff1, ff2, ff3, d27, g69] <;> first | exact ⟨rfl, rfl⟩ | rfl) ?_
          refine WpO.nil ?_
          refine ⟨rfl, Gh.only 78 13 ?_ (by first | rfl | simp -implicitDefEqProofs [hz1, hz2, hn10, hsw, sh1, sh2, sh3, sh4, sh5, sw64, mk1, mk2, mk3, mk4, fq1, fq0, fq1b, fq0b, fm1, fm0, fs1, fs0, fr1, fr0, ff1, ff2, ff3, d27, g69]) (by rfl)⟩
          simp -implicitDefEqProofs [hz1, hz2, hn10, hsw, sh1, sh2, sh3, sh4, sh5, sw64, mk1, mk2, mk3, mk4, fq1, fq0, fq1b, fq0b, fm1, fm0, fs1, fs0, fr1, fr0, ff1, ff2, ff3, d27, g69, g69'] <;> omega
        · have g69' := g69; first | simp only [dT, dF] at g69' | try simp at g69'
          have hql : q < 4294967296 := by simp at g69; omega
          obtain ⟨pq, hpq⟩ : ∃ p, q * n0 = p := ⟨_, rfl⟩
          have hpl : pq < 18446744073709551616 := by
            have : q * n0 ≤ 4294967296 * n0 := Nat.mul_le_mul_right _ (by omega)
            omega
          have em1 := mulU hpq hpl
          have em2 : IntKind.u64.wrap (4294967296 * (r : Int)) = 4294967296 * (r : Int) := wrapU (by omega) (by omega)
          have em3 : IntKind.u64.wrap (4294967296 * (r : Int) + d1) = 4294967296 * (r : Int) + d1 := wrapU (by omega) (by omega)
          have hqf : ¬ 4294967296 ≤ q := by omega
          have em6 : (4294967296 * (r : Int) + (d1 : Int) < (pq : Int)) = (4294967296 * r + d1 < pq) := propext ⟨fun h => by omega, fun h => by omega⟩
          refine WpO.run tabOk 9 (by simp -implicitDefEqProofs [hz1, hz2, hn10, hsw, sh1, sh2, sh3, sh4, sh5, sw64, mk1, mk2, mk3, mk4, fq1, fq0, fq1b, fq0b, fm1, fm0, fs1, fs0, fr1, fr0, ff1, ff2, ff3, d27, g69, hpq, em1, em2, em3, em6, hqf] <;> first | exact ⟨rfl, rfl⟩ | rfl) ?_
          refine WpO.nil ?_
          refine ⟨rfl, Gh.only 78 13 ?_ (by first | rfl | simp -implicitDefEqProofs [hz1, hz2, hn10, hsw, sh1, sh2, sh3, sh4, sh5, sw64, mk1, mk2, mk3, mk4, fq1, fq0, fq1b, fq0b, fm1, fm0, fs1, fs0, fr1, fr0, ff1, ff2, ff3, d27, g69, hpq, em1, em2, em3, em6, hqf]) (by rfl)⟩
          simp -implicitDefEqProofs [hz1, hz2, hn10, hsw, sh1, sh2, sh3, sh4, sh5, sw64, mk1, mk2, mk3, mk4, fq1, fq0, fq1b, fq0b, fm1, fm0, fs1, fs0, fr1, fr0, ff1, ff2, ff3, d27, g69, hpq, em1, em2, em3, em6, hqf, g69'] <;> omega
      refine WpC.condD (4294967296 ≤ q ∨ 4294967296 * r + d1 < q * n0) (by simp -implicitDefEqProofs [hz1, hz2, hn10, hsw, sh1, sh2, sh3, sh4, sh5, sw64, mk1, mk2, mk3, mk4, fq1, fq0, fq1b, fq0b, fm1, fm0, fs1, fs0, fr1, fr0, ff1, ff2, ff3, d27]) (fun d78 => ?_) (fun d78 => ?_)
      · obtain ⟨hq0, hdg⟩ := dg_dec hu' hd1hi hQ1 hi d78
        obtain ⟨q', hq'⟩ : ∃ p, q - 1 = p := ⟨_, rfl⟩
        obtain ⟨r', hr'⟩ : ∃ p, r + n1 = p := ⟨_, rfl⟩
        rw [hq', hr'] at hdg
        have em4 : IntKind.u64.wrap ((q : Int) - 1) = (q' : Int) := by rw [wrapU (by omega) (by omega)]; omega
        have em5 : IntKind.u64.wrap ((r : Int) + n1) = (r' : Int) := by rw [wrapU (by omega) (by omega)]; omega
        refine WpC.skip ?_
        refine WpC.block ?_
        refine WpC.seq (WpC.ops tabOk (r := []) (by simp -implicitDefEqProofs [hz1, hz2, hn10, hsw, sh1, sh2, sh3, sh4, sh5, sw64, mk1, mk2, mk3, mk4, fq1, fq0, fq1b, fq0b, fm1, fm0, fs1, fs0, fr1, fr0, ff1, ff2, ff3, d27, d78, em4, em5] <;> rfl) rfl ?_)
        refine WpC.seq (WpC.ops tabOk (r := []) (by simp -implicitDefEqProofs [hz1, hz2, hn10, hsw, sh1, sh2, sh3, sh4, sh5, sw64, mk1, mk2, mk3, mk4, fq1, fq0, fq1b, fq0b, fm1, fm0, fs1, fs0, fr1, fr0, ff1, ff2, ff3, d27, d78, em4, em5] <;> rfl) rfl ?_)
        refine WpC.seq (WpC.ops tabOk (r := []) (by simp -implicitDefEqProofs [hz1, hz2, hn10, hsw, sh1, sh2, sh3, sh4, sh5, sw64, mk1, mk2, mk3, mk4, fq1, fq0, fq1b, fq0b, fm1, fm0, fs1, fs0, fr1, fr0, ff1, ff2, ff3, d27, d78, em4, em5] <;> rfl) rfl ?_)
        refine WpC.condR (by simp -implicitDefEqProofs [hz1, hz2, hn10, hsw, sh1, sh2, sh3, sh4, sh5, sw64, mk1, mk2, mk3, mk4, fq1, fq0, fq1b, fq0b, fm1, fm0, fs1, fs0, fr1, fr0, ff1, ff2, ff3, d27, d78, em4, em5] <;> rfl) (by rfl) (fun c85 => ?_) (fun c85 => ?_)
        · have c85' := c85; first | simp only [dT, dF] at c85' | try simp at c85'
          refine WpC.exit ?_
          first
          | (have hqq : q = Q1 := dg_end hu' hQ1 hi (by omega); subst hqq)
          | (have hqq : q' = Q1 := dg_far hu' hn0hi hQ1 hdg (by simp at c85; omega); subst hqq)
          exact ⟨rfl, Gh.cut' [2, 8, 9, 10, 11, 13, 14, 15] 0 (by simp -implicitDefEqProofs [hz1, hz2, hn10, hsw, sh1, sh2, sh3, sh4, sh5, sw64, mk1, mk2, mk3, mk4, fq1, fq0, fq1b, fq0b, fm1, fm0, fs1, fs0, fr1, fr0, ff1, ff2, ff3, d27, d78, em4, em5, c85, c85']) (by simp -implicitDefEqProofs [hz1, hz2, hn10, hsw, sh1, sh2, sh3, sh4, sh5, sw64, mk1, mk2, mk3, mk4, fq1, fq0, fq1b, fq0b, fm1, fm0, fs1, fs0, fr1, fr0, ff1, ff2, ff3, d27, d78, em4, em5, c85, c85']) rfl (by simp) (by simp) (by simp)⟩
        · have c85' := c85; first | simp only [dT, dF] at c85' | try simp at c85'
          refine WpC.skip ?_
          exact ⟨(q', r'), ⟨hdg, by simp at c85; show r' < _; omega⟩, by show q' < q; omega, Gh.cut' [15, 16, 2, 8, 9, 10, 11, 13, 14] 0 (by simp -implicitDefEqProofs [hz1, hz2, hn10, hsw, sh1, sh2, sh3, sh4, sh5, sw64, mk1, mk2, mk3, mk4, fq1, fq0, fq1b, fq0b, fm1, fm0, fs1, fs0, fr1, fr0, ff1, ff2, ff3, d27, d78, em4, em5, c85, c85']) (by simp) rfl (by simp) (by simp) (by simp)⟩
      · refine WpC.exit ?_
        first
        | (have hqq : q = Q1 := dg_end hu' hQ1 hi (by omega); subst hqq)
        | (have hqq : q' = Q1 := dg_far hu' hn0hi hQ1 hdg (by simp at c85; omega); subst hqq)
        exact ⟨rfl, Gh.cut' [2, 8, 9, 10, 11, 13, 14, 15] 0 (by simp -implicitDefEqProofs [hz1, hz2, hn10, hsw, sh1, sh2, sh3, sh4, sh5, sw64, mk1, mk2, mk3, mk4, fq1, fq0, fq1b, fq0b, fm1, fm0, fs1, fs0, fr1, fr0, ff1, ff2, ff3, d27, d78]) (by simp -implicitDefEqProofs [hz1, hz2, hn10, hsw, sh1, sh2, sh3, sh4, sh5, sw64, mk1, mk2, mk3, mk4, fq1, fq0, fq1b, fq0b, fm1, fm0, fs1, fs0, fr1, fr0, ff1, ff2, ff3, d27, d78]) rfl (by simp) (by simp) (by simp)⟩
    · refine WpC.seq (WpC.ops tabOk (r := []) (by simp -implicitDefEqProofs [hz1, hz2, hn10, hsw, sh1, sh2, sh3, sh4, sh5, sw64, mk1, mk2, mk3, mk4, fq1, fq0, fq1b, fq0b, fm1, fm0, fs1, fs0, fr1, fr0, ff1, ff2, ff3, d27] <;> rfl) rfl ?_)
      refine WpC.seq (WpC.ops tabOk (r := []) (by simp -implicitDefEqProofs [hz1, hz2, hn10, hsw, sh1, sh2, sh3, sh4, sh5, sw64, mk1, mk2, mk3, mk4, fq1, fq0, fq1b, fq0b, fm1, fm0, fs1, fs0, fr1, fr0, ff1, ff2, ff3, d27] <;> rfl) rfl ?_)
      refine WpC.seq (WpC.ops tabOk (r := []) (by simp -implicitDefEqProofs [hz1, hz2, hn10, hsw, sh1, sh2, sh3, sh4, sh5, sw64, mk1, mk2, mk3, mk4, fq1, fq0, fq1b, fq0b, fm1, fm0, fs1, fs0, fr1, fr0, ff1, ff2, ff3, d27] <;> rfl) rfl ?_)
      refine WpC.seq ?_
      refine WpC.join ⟨[(2, .d (.int .u64 Y)), (8, .d (.int .u64 s)), (14, .d (.int .u64 d0)), (15, .d (.int .u64 Q1)), (17, .d (.int .u64 r1)), (18, .d (.int .u64 Q0))], [], 135, 0⟩ ?_ ?_
      · refine WpC.block ?_
        refine WpC.loopM [2, 8, 9, 10, 14, 15, 17] [16, 18] (fun x => x.1) ((b0, t0) : Nat × Nat) (fun x => [(16, .d (.int .u64 (x.2 : Nat))), (18, .d (.int .u64 (x.1 : Nat)))]) (fun x => []) (fun x => Dg n1 n0 r1 d0 Q0 x.1 x.2 ∧ x.2 < 4294967296) (by simp -implicitDefEqProofs [hz1, hz2, hn10, hsw, sh1, sh2, sh3, sh4, sh5, sw64, mk1, mk2, mk3, mk4, fq1, fq0, fq1b, fq0b, fm1, fm0, fs1, fs0, fr1, fr0, ff1, ff2, ff3, d27] <;> rfl) (Gh.cut' [16, 18, 2, 8, 9, 10, 14, 15, 17] 0 (by simp -implicitDefEqProofs [hz1, hz2, hn10, hsw, sh1, sh2, sh3, sh4, sh5, sw64, mk1, mk2, mk3, mk4, fq1, fq0, fq1b, fq0b, fm1, fm0, fs1, fs0, fr1, fr0, ff1, ff2, ff3, d27]) (by simp -implicitDefEqProofs [hz1, hz2, hn10, hsw, sh1, sh2, sh3, sh4, sh5, sw64, mk1, mk2, mk3, mk4, fq1, fq0, fq1b, fq0b, fm1, fm0, fs1, fs0, fr1, fr0, ff1, ff2, ff3, d27]) rfl (by simp) (by simp) (by simp)) (⟨hg0, ht0l⟩) ?_
        rintro x hi
        simp only [List.cons_append, List.nil_append]
        obtain ⟨q, r⟩ := x
        obtain ⟨hi, hrl⟩ := hi
        simp only at hi hrl ⊢
        have hqb : q ≤ r1 := hi.qle (by omega)
        refine WpC.seq ?_
        refine WpC.seq ?_
        refine WpC.val 113 (.d (.bool (decide (4294967296 ≤ q ∨ 4294967296 * r + d0 < q * n0)))) ?_ ?_
        · refine WpC.region ?_
          refine WpO.run tabOk 3 (by simp -implicitDefEqProofs [hz1, hz2, hn10, hsw, sh1, sh2, sh3, sh4, sh5, sw64, mk1, mk2, mk3, mk4, fq1, fq0, fq1b, fq0b, fm1, fm0, fs1, fs0, fr1, fr0, ff1, ff2, ff3, d27] <;> first | exact ⟨rfl, rfl⟩ | rfl) ?_
          refine WpO.splitB 104 (by simp -implicitDefEqProofs [hz1, hz2, hn10, hsw, sh1, sh2, sh3, sh4, sh5, sw64, mk1, mk2, mk3, mk4, fq1, fq0, fq1b, fq0b, fm1, fm0, fs1, fs0, fr1, fr0, ff1, ff2, ff3, d27] <;> rfl) (by rfl) (fun g104 => ?_) (fun g104 => ?_)
          · have g104' := g104; first | simp only [dT, dF] at g104' | try simp at g104'
            refine WpO.run tabOk 9 (by simp -implicitDefEqProofs [hz1, hz2, hn10, hsw, sh1, sh2, sh3, sh4, sh5, sw64, mk1, mk2, mk3, mk4, fq1, fq0, fq1b, fq0b, fm1, fm0, fs1, fs0, fr1, fr0, ff1, ff2, ff3, d27, g104] <;> first | exact ⟨rfl, rfl⟩ | rfl) ?_
            refine WpO.nil ?_
            refine ⟨rfl, Gh.only 113 13 ?_ (by first | rfl | simp -implicitDefEqProofs [hz1, hz2, hn10, hsw, sh1, sh2, sh3, sh4, sh5, sw64, mk1, mk2, mk3, mk4, fq1, fq0, fq1b, fq0b, fm1, fm0, fs1, fs0, fr1, fr0, ff1, ff2, ff3, d27, g104]) (by rfl)⟩
            simp -implicitDefEqProofs [hz1, hz2, hn10, hsw, sh1, sh2, sh3, sh4, sh5, sw64, mk1, mk2, mk3, mk4, fq1, fq0, fq1b, fq0b, fm1, fm0, fs1, fs0, fr1, fr0, ff1, ff2, ff3, d27, g104, g104'] <;> omega
          · have g104' := g104; first | simp only [dT, dF] at g104' | try simp at g104'
            have hql : q < 4294967296 := by simp at g104; omega
            obtain ⟨pq, hpq⟩ : ∃ p, q * n0 = p := ⟨_, rfl⟩
            have hpl : pq < 18446744073709551616 := by
              have : q * n0 ≤ 4294967296 * n0 := Nat.mul_le_mul_right _ (by omega)
              omega
            have em1 := mulU hpq hpl
            have em2 : IntKind.u64.wrap (4294967296 * (r : Int)) = 4294967296 * (r : Int) := wrapU (by omega) (by omega)
            have em3 : IntKind.u64.wrap (4294967296 * (r : Int) + d0) = 4294967296 * (r : Int) + d0 := wrapU (by omega) (by omega)
            have hqf : ¬ 4294967296 ≤ q := by omega
            have em6 : (4294967296 * (r : Int) + (d0 : Int) < (pq : Int)) = (4294967296 * r + d0 < pq) := propext ⟨fun h => by omega, fun h => by omega⟩
            refine WpO.run tabOk 9 (by simp -implicitDefEqProofs [hz1, hz2, hn10, hsw, sh1, sh2, sh3, sh4, sh5, sw64, mk1, mk2, mk3, mk4, fq1, fq0, fq1b, fq0b, fm1, fm0, fs1, fs0, fr1, fr0, ff1, ff2, ff3, d27, g104, hpq, em1, em2, em3, em6, hqf] <;> first | exact ⟨rfl, rfl⟩ | rfl) ?_
            refine WpO.nil ?_
            refine ⟨rfl, Gh.only 113 13 ?_ (by first | rfl | simp -implicitDefEqProofs [hz1, hz2, hn10, hsw, sh1, sh2, sh3, sh4, sh5, sw64, mk1, mk2, mk3, mk4, fq1, fq0, fq1b, fq0b, fm1, fm0, fs1, fs0, fr1, fr0, ff1, ff2, ff3, d27, g104, hpq, em1, em2, em3, em6, hqf]) (by rfl)⟩
            simp -implicitDefEqProofs [hz1, hz2, hn10, hsw, sh1, sh2, sh3, sh4, sh5, sw64, mk1, mk2, mk3, mk4, fq1, fq0, fq1b, fq0b, fm1, fm0, fs1, fs0, fr1, fr0, ff1, ff2, ff3, d27, g104, hpq, em1, em2, em3, em6, hqf, g104'] <;> omega
        refine WpC.condD (4294967296 ≤ q ∨ 4294967296 * r + d0 < q * n0) (by simp -implicitDefEqProofs [hz1, hz2, hn10, hsw, sh1, sh2, sh3, sh4, sh5, sw64, mk1, mk2, mk3, mk4, fq1, fq0, fq1b, fq0b, fm1, fm0, fs1, fs0, fr1, fr0, ff1, ff2, ff3, d27]) (fun d113 => ?_) (fun d113 => ?_)
        · obtain ⟨hq0, hdg⟩ := dg_dec hr1' hd0hi hQ0 hi d113
          obtain ⟨q', hq'⟩ : ∃ p, q - 1 = p := ⟨_, rfl⟩
          obtain ⟨r', hr'⟩ : ∃ p, r + n1 = p := ⟨_, rfl⟩
          rw [hq', hr'] at hdg
          have em4 : IntKind.u64.wrap ((q : Int) - 1) = (q' : Int) := by rw [wrapU (by omega) (by omega)]; omega
          have em5 : IntKind.u64.wrap ((r : Int) + n1) = (r' : Int) := by rw [wrapU (by omega) (by omega)]; omega
          refine WpC.skip ?_
          refine WpC.block ?_
          refine WpC.seq (WpC.ops tabOk (r := []) (by simp -implicitDefEqProofs [hz1, hz2, hn10, hsw, sh1, sh2, sh3, sh4, sh5, sw64, mk1, mk2, mk3, mk4, fq1, fq0, fq1b, fq0b, fm1, fm0, fs1, fs0, fr1, fr0, ff1, ff2, ff3, d27, d113, em4, em5] <;> rfl) rfl ?_)
          refine WpC.seq (WpC.ops tabOk (r := []) (by simp -implicitDefEqProofs [hz1, hz2, hn10, hsw, sh1, sh2, sh3, sh4, sh5, sw64, mk1, mk2, mk3, mk4, fq1, fq0, fq1b, fq0b, fm1, fm0, fs1, fs0, fr1, fr0, ff1, ff2, ff3, d27, d113, em4, em5] <;> rfl) rfl ?_)
          refine WpC.seq (WpC.ops tabOk (r := []) (by simp -implicitDefEqProofs [hz1, hz2, hn10, hsw, sh1, sh2, sh3, sh4, sh5, sw64, mk1, mk2, mk3, mk4, fq1, fq0, fq1b, fq0b, fm1, fm0, fs1, fs0, fr1, fr0, ff1, ff2, ff3, d27, d113, em4, em5] <;> rfl) rfl ?_)
          refine WpC.condR (by simp -implicitDefEqProofs [hz1, hz2, hn10, hsw, sh1, sh2, sh3, sh4, sh5, sw64, mk1, mk2, mk3, mk4, fq1, fq0, fq1b, fq0b, fm1, fm0, fs1, fs0, fr1, fr0, ff1, ff2, ff3, d27, d113, em4, em5] <;> rfl) (by rfl) (fun c120 => ?_) (fun c120 => ?_)
          · have c120' := c120; first | simp only [dT, dF] at c120' | try simp at c120'
            refine WpC.exit ?_
            first
            | (have hqq : q = Q0 := dg_end hr1' hQ0 hi (by omega); subst hqq)
            | (have hqq : q' = Q0 := dg_far hr1' hn0hi hQ0 hdg (by simp at c120; omega); subst hqq)
            exact ⟨rfl, Gh.cut' [2, 8, 14, 15, 17, 18] 0 (by simp -implicitDefEqProofs [hz1, hz2, hn10, hsw, sh1, sh2, sh3, sh4, sh5, sw64, mk1, mk2, mk3, mk4, fq1, fq0, fq1b, fq0b, fm1, fm0, fs1, fs0, fr1, fr0, ff1, ff2, ff3, d27, d113, em4, em5, c120, c120']) (by simp -implicitDefEqProofs [hz1, hz2, hn10, hsw, sh1, sh2, sh3, sh4, sh5, sw64, mk1, mk2, mk3, mk4, fq1, fq0, fq1b, fq0b, fm1, fm0, fs1, fs0, fr1, fr0, ff1, ff2, ff3, d27, d113, em4, em5, c120, c120']) rfl (by simp) (by simp) (by simp)⟩
          · have c120' := c120; first | simp only [dT, dF] at c120' | try simp at c120'
            refine WpC.skip ?_
            exact ⟨(q', r'), ⟨hdg, by simp at c120; show r' < _; omega⟩, by show q' < q; omega, Gh.cut' [16, 18, 2, 8, 9, 10, 14, 15, 17] 0 (by simp -implicitDefEqProofs [hz1, hz2, hn10, hsw, sh1, sh2, sh3, sh4, sh5, sw64, mk1, mk2, mk3, mk4, fq1, fq0, fq1b, fq0b, fm1, fm0, fs1, fs0, fr1, fr0, ff1, ff2, ff3, d27, d113, em4, em5, c120, c120']) (by simp) rfl (by simp) (by simp) (by simp)⟩
        · refine WpC.exit ?_
          first
          | (have hqq : q = Q0 := dg_end hr1' hQ0 hi (by omega); subst hqq)
          | (have hqq : q' = Q0 := dg_far hr1' hn0hi hQ0 hdg (by simp at c120; omega); subst hqq)
          exact ⟨rfl, Gh.cut' [2, 8, 14, 15, 17, 18] 0 (by simp -implicitDefEqProofs [hz1, hz2, hn10, hsw, sh1, sh2, sh3, sh4, sh5, sw64, mk1, mk2, mk3, mk4, fq1, fq0, fq1b, fq0b, fm1, fm0, fs1, fs0, fr1, fr0, ff1, ff2, ff3, d27, d113]) (by simp -implicitDefEqProofs [hz1, hz2, hn10, hsw, sh1, sh2, sh3, sh4, sh5, sw64, mk1, mk2, mk3, mk4, fq1, fq0, fq1b, fq0b, fm1, fm0, fs1, fs0, fr1, fr0, ff1, ff2, ff3, d27, d113]) rfl (by simp) (by simp) (by simp)⟩
      · refine WpC.seq (WpC.ops tabOk (r := []) (by simp -implicitDefEqProofs [hz1, hz2, hn10, hsw, sh1, sh2, sh3, sh4, sh5, sw64, mk1, mk2, mk3, mk4, fq1, fq0, fq1b, fq0b, fm1, fm0, fs1, fs0, fr1, fr0, ff1, ff2, ff3, d27] <;> rfl) rfl ?_)
        refine WpC.ret ?_
        try simp only [blockQ, seqQ]
        refine retD_i (by simp -implicitDefEqProofs [hz1, hz2, hn10, hsw, sh1, sh2, sh3, sh4, sh5, sw64, mk1, mk2, mk3, mk4, fq1, fq0, fq1b, fq0b, fm1, fm0, fs1, fs0, fr1, fr0, ff1, ff2, ff3, d27] <;> rfl) (by simp -implicitDefEqProofs [hz1, hz2, hn10, hsw, sh1, sh2, sh3, sh4, sh5, sw64, mk1, mk2, mk3, mk4, fq1, fq0, fq1b, fq0b, fm1, fm0, fs1, fs0, fr1, fr0, ff1, ff2, ff3, d27] <;> rfl) ?_
        simp -implicitDefEqProofs [hz1, hz2, hn10, hsw, sh1, sh2, sh3, sh4, sh5, sw64, mk1, mk2, mk3, mk4, fq1, fq0, fq1b, fq0b, fm1, fm0, fs1, fs0, fr1, fr0, ff1, ff2, ff3, d27]
end Go.Proofs.Ytaobnhenjldjeaa.Pay
/- wide: products and quotients. money: sums. No statement of the seed is proved here. -/
namespace Go.Proofs.Ytaobnhenjldjeaa.Pay
open Go Go.RowKit
set_option linter.unusedVariables false
set_option linter.unusedSimpArgs false
set_option maxRecDepth 20000

theorem up0_ok (q l c : Nat) : Gives Try.prog 48 [.d (dI 0), .d (.int .u64 q), .d (.int .u64 l), .d (.int .u64 c)] (.d (.bool false)) := by
  refine Gives.enter tabOk Try.func48 rfl (by show 4 ≤ 39; decide) ?_
  simp only [Try.f48]
  refine WpC.seq (WpC.ops tabOk (r := []) (by simp -implicitDefEqProofs <;> rfl) rfl ?_)
  refine WpC.seq ?_
  refine WpC.seq (WpC.ops tabOk (r := []) (by simp -implicitDefEqProofs <;> rfl) rfl ?_)
  refine WpC.block ?_
  refine WpC.seq (WpC.ops tabOk (r := []) (by simp -implicitDefEqProofs <;> rfl) rfl ?_)
  refine WpC.condT (by simp -implicitDefEqProofs <;> rfl) ?_
  refine WpC.seq (WpC.ops tabOk (r := []) (by simp -implicitDefEqProofs <;> rfl) rfl ?_)
  refine WpC.ret ?_
  try simp only [blockQ, seqQ]
  refine retD_i (by simp -implicitDefEqProofs <;> rfl) (by simp -implicitDefEqProofs <;> rfl) ?_
  simp -implicitDefEqProofs
def rightM (n : Int) : Bool := decide (-9223372036854775807 ≤ n)
theorem rightM_ok (n : Int) : Gives Try.prog 44 [.d (dI n)] (.d (.bool (rightM n))) := by
  refine Gives.enter tabOk Try.func44 rfl (by show 1 ≤ 5; decide) ?_
  simp only [Try.f44]
  refine WpC.seq (WpC.ops tabOk (r := []) (by simp -implicitDefEqProofs <;> rfl) rfl ?_)
  refine WpC.seq (WpC.ops tabOk (r := []) (by simp -implicitDefEqProofs <;> rfl) rfl ?_)
  refine WpC.ret ?_
  try simp only [blockQ, seqQ]
  refine retD_i (by simp -implicitDefEqProofs <;> rfl) (by simp -implicitDefEqProofs <;> rfl) ?_
  simp [rightM]

theorem mulDiv_ok (a b c : Nat) (ha : a ≤ 9223372036854775807) (hb : b ≤ c) (hc : 0 < c) (hc2 : c ≤ 9223372036854775807) :
    Gives Try.prog 31 [.d (dI a), .d (dI b), .d (dI c), .d (dI 0)] (.tup [.d (dI (a * b / c : Nat)), .d (dI 0)]) := by
  have hab : a * b ≤ a * c := Nat.mul_le_mul_left _ hb
  have hq : a * b / c ≤ a := Nat.div_le_of_le_mul (by rw [Nat.mul_comm c]; exact hab)
  have hm := mul64_ok a b (by omega) (by omega)
  obtain ⟨h, hh⟩ : ∃ h, a * b / 18446744073709551616 = h := ⟨_, rfl⟩
  obtain ⟨l, hl⟩ : ∃ h, a * b % 18446744073709551616 = h := ⟨_, rfl⟩
  have hhl : h * 18446744073709551616 + l = a * b := by rw [← hh, ← hl]; exact Nat.div_add_mod' _ _
  have hhc : h < c := by
    rw [← hh, Nat.div_lt_iff_lt_mul (by omega)]
    have h1 : a * c ≤ 9223372036854775807 * c := Nat.mul_le_mul_right _ ha
    omega
  have hl2 : l < 18446744073709551616 := by rw [← hl]; exact Nat.mod_lt _ (by omega)
  have hd := div64_ok h l c hhc hl2 (by omega)
  rw [hhl] at hd
  rw [hh, hl] at hm
  obtain ⟨q, hqe⟩ : ∃ q, a * b / c = q := ⟨_, rfl⟩
  obtain ⟨r, hre⟩ : ∃ q, a * b % c = q := ⟨_, rfl⟩
  rw [hqe] at hd hq ⊢
  rw [hre] at hd
  have s1 := size_ok a (by omega)
  have s2 := size_ok b (by omega)
  have s3 := size_ok c (by omega)
  rw [show (a : Int).natAbs = a from rfl] at s1
  rw [show (b : Int).natAbs = b from rfl] at s2
  rw [show (c : Int).natAbs = c from rfl] at s3
  have r1 := rightM_ok a
  have r2 := rightM_ok b
  have r3 := rightM_ok c
  rw [show rightM a = true from decide_eq_true (by omega)] at r1
  rw [show rightM b = true from decide_eq_true (by omega)] at r2
  rw [show rightM c = true from decide_eq_true (by omega)] at r3
  have z1 : ¬ c = 0 := by omega
  have z2 : ¬ c ≤ h := by omega
  have z3 : (q : Int) ≤ 9223372036854775807 := by omega
  have z4 : ¬ (9223372036854775807 : Int) < q := by omega
  have z5 : IntKind.i64.wrap (q : Int) = q := wrapI (by omega) (by omega)
  have z6 : ¬ (a : Int) < 0 := by omega
  have z7 : ¬ (b : Int) < 0 := by omega
  have z8 : ¬ (c : Int) < 0 := by omega
  refine Gives.enter tabOk Try.func31 rfl (by show 4 ≤ 86; decide) ?_
  simp only [Try.f31]
  refine WpC.seq (WpC.ops tabOk (r := []) (by simp -implicitDefEqProofs [z1, z2, z3, z4, z5, z6, z7, z8] <;> rfl) rfl ?_)
  refine WpC.seq ?_
  refine WpC.block ?_
  refine WpC.seq ?_
  refine WpC.val 16 (.d (.bool (false))) ?_ ?_
  · refine WpC.region ?_
    refine WpO.run tabOk 3 (by simp -implicitDefEqProofs [z1, z2, z3, z4, z5, z6, z7, z8] <;> first | exact ⟨rfl, rfl⟩ | rfl) ?_
    refine WpO.splitB 19 (by simp -implicitDefEqProofs [z1, z2, z3, z4, z5, z6, z7, z8] <;> rfl) (by rfl) (fun g19 => ?_) (fun g19 => ?_)
    · try (exfalso; revert g19; simp; done)
      all_goals
        have g19' := g19; first | simp only [dT, dF] at g19' | try simp at g19'
        refine WpO.run tabOk 4 (by simp -implicitDefEqProofs [z1, z2, z3, z4, z5, z6, z7, z8, g19] <;> first | exact ⟨rfl, rfl⟩ | rfl) ?_
        refine WpO.nil ?_
        refine ⟨rfl, Gh.only 16 8 ?_ (by first | rfl | simp -implicitDefEqProofs [z1, z2, z3, z4, z5, z6, z7, z8, g19]) (by rfl)⟩
        simp -implicitDefEqProofs [z1, z2, z3, z4, z5, z6, z7, z8, g19, g19']
    · try (exfalso; revert g19; simp; done)
      all_goals
        have g19' := g19; first | simp only [dT, dF] at g19' | try simp at g19'
        refine WpO.run tabOk 4 (by simp -implicitDefEqProofs [z1, z2, z3, z4, z5, z6, z7, z8, g19] <;> first | exact ⟨rfl, rfl⟩ | rfl) ?_
        refine WpO.nil ?_
        refine ⟨rfl, Gh.only 16 8 ?_ (by first | rfl | simp -implicitDefEqProofs [z1, z2, z3, z4, z5, z6, z7, z8, g19]) (by rfl)⟩
        simp -implicitDefEqProofs [z1, z2, z3, z4, z5, z6, z7, z8, g19, g19']
  refine WpC.condF (by simp -implicitDefEqProofs [z1, z2, z3, z4, z5, z6, z7, z8] <;> rfl) ?_
  refine WpC.seq ?_
  refine WpC.val 23 (.d (.bool (false))) ?_ ?_
  · refine WpC.region ?_
    refine WpO.run tabOk 1 (by simp -implicitDefEqProofs [z1, z2, z3, z4, z5, z6, z7, z8] <;> first | exact ⟨rfl, rfl⟩ | rfl) ?_
    refine WpO.data (by simp) rfl (by simp -implicitDefEqProofs [z1, z2, z3, z4, z5, z6, z7, z8] <;> rfl) (by simp -implicitDefEqProofs [z1, z2, z3, z4, z5, z6, z7, z8] <;> rfl) (by simp -implicitDefEqProofs [z1, z2, z3, z4, z5, z6, z7, z8] <;> rfl) call_44 (by simp) (r1) (by rfl) (by simp -implicitDefEqProofs [z1, z2, z3, z4, z5, z6, z7, z8] <;> rfl) ?_
    refine WpO.run tabOk 2 (by simp -implicitDefEqProofs [z1, z2, z3, z4, z5, z6, z7, z8] <;> first | exact ⟨rfl, rfl⟩ | rfl) ?_
    refine WpO.splitB 27 (by simp -implicitDefEqProofs [z1, z2, z3, z4, z5, z6, z7, z8] <;> rfl) (by rfl) (fun g27 => ?_) (fun g27 => ?_)
    · try (exfalso; revert g27; simp; done)
      all_goals
        have g27' := g27; first | simp only [dT, dF] at g27' | try simp at g27'
        refine WpO.run tabOk 10 (by simp -implicitDefEqProofs [z1, z2, z3, z4, z5, z6, z7, z8, g27] <;> first | exact ⟨rfl, rfl⟩ | rfl) ?_
        refine WpO.nil ?_
        refine ⟨rfl, Gh.only 23 15 ?_ (by first | rfl | simp -implicitDefEqProofs [z1, z2, z3, z4, z5, z6, z7, z8, g27]) (by rfl)⟩
        simp -implicitDefEqProofs [z1, z2, z3, z4, z5, z6, z7, z8, g27, g27']
    · try (exfalso; revert g27; simp; done)
      all_goals
        have g27' := g27; first | simp only [dT, dF] at g27' | try simp at g27'
        refine WpO.run tabOk 1 (by simp -implicitDefEqProofs [z1, z2, z3, z4, z5, z6, z7, z8, g27] <;> first | exact ⟨rfl, rfl⟩ | rfl) ?_
        refine WpO.data (by simp) rfl (by simp -implicitDefEqProofs [z1, z2, z3, z4, z5, z6, z7, z8, g27] <;> rfl) (by simp -implicitDefEqProofs [z1, z2, z3, z4, z5, z6, z7, z8, g27] <;> rfl) (by simp -implicitDefEqProofs [z1, z2, z3, z4, z5, z6, z7, z8, g27] <;> rfl) call_44 (by simp) (r2) (by rfl) (by simp -implicitDefEqProofs [z1, z2, z3, z4, z5, z6, z7, z8, g27] <;> rfl) ?_
        refine WpO.run tabOk 3 (by simp -implicitDefEqProofs [z1, z2, z3, z4, z5, z6, z7, z8, g27] <;> first | exact ⟨rfl, rfl⟩ | rfl) ?_
        refine WpO.splitB 32 (by simp -implicitDefEqProofs [z1, z2, z3, z4, z5, z6, z7, z8, g27] <;> rfl) (by rfl) (fun g32 => ?_) (fun g32 => ?_)
        · try (exfalso; revert g32; simp; done)
          all_goals
            have g32' := g32; first | simp only [dT, dF] at g32' | try simp at g32'
            refine WpO.run tabOk 5 (by simp -implicitDefEqProofs [z1, z2, z3, z4, z5, z6, z7, z8, g27, g32] <;> first | exact ⟨rfl, rfl⟩ | rfl) ?_
            refine WpO.nil ?_
            refine ⟨rfl, Gh.only 23 16 ?_ (by first | rfl | simp -implicitDefEqProofs [z1, z2, z3, z4, z5, z6, z7, z8, g27, g32]) (by rfl)⟩
            simp -implicitDefEqProofs [z1, z2, z3, z4, z5, z6, z7, z8, g27, g32, g27', g32']
        · try (exfalso; revert g32; simp; done)
          all_goals
            have g32' := g32; first | simp only [dT, dF] at g32' | try simp at g32'
            refine WpO.run tabOk 1 (by simp -implicitDefEqProofs [z1, z2, z3, z4, z5, z6, z7, z8, g27, g32] <;> first | exact ⟨rfl, rfl⟩ | rfl) ?_
            refine WpO.data (by simp) rfl (by simp -implicitDefEqProofs [z1, z2, z3, z4, z5, z6, z7, z8, g27, g32] <;> rfl) (by simp -implicitDefEqProofs [z1, z2, z3, z4, z5, z6, z7, z8, g27, g32] <;> rfl) (by simp -implicitDefEqProofs [z1, z2, z3, z4, z5, z6, z7, z8, g27, g32] <;> rfl) call_44 (by simp) (r3) (by rfl) (by simp -implicitDefEqProofs [z1, z2, z3, z4, z5, z6, z7, z8, g27, g32] <;> rfl) ?_
            refine WpO.run tabOk 3 (by simp -implicitDefEqProofs [z1, z2, z3, z4, z5, z6, z7, z8, g27, g32] <;> first | exact ⟨rfl, rfl⟩ | rfl) ?_
            refine WpO.nil ?_
            refine ⟨rfl, Gh.only 23 16 ?_ (by first | rfl | simp -implicitDefEqProofs [z1, z2, z3, z4, z5, z6, z7, z8, g27, g32]) (by rfl)⟩
            simp -implicitDefEqProofs [z1, z2, z3, z4, z5, z6, z7, z8, g27, g32, g27', g32']
  refine WpC.condF (by simp -implicitDefEqProofs [z1, z2, z3, z4, z5, z6, z7, z8] <;> rfl) ?_
  refine WpC.seq (WpC.ops tabOk (r := []) (by simp -implicitDefEqProofs [z1, z2, z3, z4, z5, z6, z7, z8] <;> rfl) rfl ?_)
  refine WpC.condF (by simp -implicitDefEqProofs [z1, z2, z3, z4, z5, z6, z7, z8] <;> rfl) ?_
  refine WpC.skip ?_
  refine WpC.seq ?_
  refine WpC.region ?_
  refine WpO.run tabOk 1 (by simp -implicitDefEqProofs [z1, z2, z3, z4, z5, z6, z7, z8] <;> first | exact ⟨rfl, rfl⟩ | rfl) ?_
  refine WpO.data (by simp) rfl (by simp -implicitDefEqProofs [z1, z2, z3, z4, z5, z6, z7, z8] <;> rfl) (by simp -implicitDefEqProofs [z1, z2, z3, z4, z5, z6, z7, z8] <;> rfl) (by simp -implicitDefEqProofs [z1, z2, z3, z4, z5, z6, z7, z8] <;> rfl) call_46 (by simp) (s1) (by rfl) (by simp -implicitDefEqProofs [z1, z2, z3, z4, z5, z6, z7, z8] <;> rfl) ?_
  refine WpO.run tabOk 1 (by simp -implicitDefEqProofs [z1, z2, z3, z4, z5, z6, z7, z8] <;> first | exact ⟨rfl, rfl⟩ | rfl) ?_
  refine WpO.data (by simp) rfl (by simp -implicitDefEqProofs [z1, z2, z3, z4, z5, z6, z7, z8] <;> rfl) (by simp -implicitDefEqProofs [z1, z2, z3, z4, z5, z6, z7, z8] <;> rfl) (by simp -implicitDefEqProofs [z1, z2, z3, z4, z5, z6, z7, z8] <;> rfl) call_46 (by simp) (s2) (by rfl) (by simp -implicitDefEqProofs [z1, z2, z3, z4, z5, z6, z7, z8] <;> rfl) ?_
  refine WpO.data (by simp) rfl (by simp -implicitDefEqProofs [z1, z2, z3, z4, z5, z6, z7, z8] <;> rfl) (by simp -implicitDefEqProofs [z1, z2, z3, z4, z5, z6, z7, z8] <;> rfl) (by simp -implicitDefEqProofs [z1, z2, z3, z4, z5, z6, z7, z8] <;> rfl) call_45 (by simp) (hm) (by rfl) (by simp -implicitDefEqProofs [z1, z2, z3, z4, z5, z6, z7, z8] <;> rfl) ?_
  refine WpO.run tabOk 5 (by simp -implicitDefEqProofs [z1, z2, z3, z4, z5, z6, z7, z8] <;> first | exact ⟨rfl, rfl⟩ | rfl) ?_
  refine WpO.nil ?_
  refine WpC.seq ?_
  refine WpC.region ?_
  refine WpO.run tabOk 1 (by simp -implicitDefEqProofs [z1, z2, z3, z4, z5, z6, z7, z8] <;> first | exact ⟨rfl, rfl⟩ | rfl) ?_
  refine WpO.data (by simp) rfl (by simp -implicitDefEqProofs [z1, z2, z3, z4, z5, z6, z7, z8] <;> rfl) (by simp -implicitDefEqProofs [z1, z2, z3, z4, z5, z6, z7, z8] <;> rfl) (by simp -implicitDefEqProofs [z1, z2, z3, z4, z5, z6, z7, z8] <;> rfl) call_46 (by simp) (s3) (by rfl) (by simp -implicitDefEqProofs [z1, z2, z3, z4, z5, z6, z7, z8] <;> rfl) ?_
  refine WpO.run tabOk 1 (by simp -implicitDefEqProofs [z1, z2, z3, z4, z5, z6, z7, z8] <;> first | exact ⟨rfl, rfl⟩ | rfl) ?_
  refine WpO.nil ?_
  refine WpC.seq ?_
  refine WpC.seq (WpC.ops tabOk (r := []) (by simp -implicitDefEqProofs [z1, z2, z3, z4, z5, z6, z7, z8] <;> rfl) rfl ?_)
  refine WpC.condF (by simp -implicitDefEqProofs [z1, z2, z3, z4, z5, z6, z7, z8] <;> rfl) ?_
  refine WpC.skip ?_
  refine WpC.seq ?_
  refine WpC.region ?_
  refine WpO.run tabOk 3 (by simp -implicitDefEqProofs [z1, z2, z3, z4, z5, z6, z7, z8] <;> first | exact ⟨rfl, rfl⟩ | rfl) ?_
  refine WpO.data (by simp) rfl (by simp -implicitDefEqProofs [z1, z2, z3, z4, z5, z6, z7, z8] <;> rfl) (by simp -implicitDefEqProofs [z1, z2, z3, z4, z5, z6, z7, z8] <;> rfl) (by simp -implicitDefEqProofs [z1, z2, z3, z4, z5, z6, z7, z8] <;> rfl) call_47 (by simp) (hd) (by rfl) (by simp -implicitDefEqProofs [z1, z2, z3, z4, z5, z6, z7, z8] <;> rfl) ?_
  refine WpO.run tabOk 5 (by simp -implicitDefEqProofs [z1, z2, z3, z4, z5, z6, z7, z8] <;> first | exact ⟨rfl, rfl⟩ | rfl) ?_
  refine WpO.nil ?_
  refine WpC.seq ?_
  refine WpC.seq ?_
  refine WpC.val 68 (.d (.bool (false))) ?_ ?_
  · refine WpC.region ?_
    refine WpO.run tabOk 3 (by simp -implicitDefEqProofs [z1, z2, z3, z4, z5, z6, z7, z8] <;> first | exact ⟨rfl, rfl⟩ | rfl) ?_
    refine WpO.splitB 62 (by simp -implicitDefEqProofs [z1, z2, z3, z4, z5, z6, z7, z8] <;> rfl) (by rfl) (fun g62 => ?_) (fun g62 => ?_)
    · try (exfalso; revert g62; simp; done)
      all_goals
        have g62' := g62; first | simp only [dT, dF] at g62' | try simp at g62'
        refine WpO.run tabOk 4 (by simp -implicitDefEqProofs [z1, z2, z3, z4, z5, z6, z7, z8, g62] <;> first | exact ⟨rfl, rfl⟩ | rfl) ?_
        refine WpO.data (by simp) rfl (by simp -implicitDefEqProofs [z1, z2, z3, z4, z5, z6, z7, z8, g62] <;> rfl) (by simp -implicitDefEqProofs [z1, z2, z3, z4, z5, z6, z7, z8, g62] <;> rfl) (by simp -implicitDefEqProofs [z1, z2, z3, z4, z5, z6, z7, z8, g62] <;> rfl) call_48 (by simp) (up0_ok q r c) (by rfl) (by simp -implicitDefEqProofs [z1, z2, z3, z4, z5, z6, z7, z8, g62] <;> rfl) ?_
        refine WpO.run tabOk 1 (by simp -implicitDefEqProofs [z1, z2, z3, z4, z5, z6, z7, z8, g62] <;> first | exact ⟨rfl, rfl⟩ | rfl) ?_
        refine WpO.nil ?_
        refine ⟨rfl, Gh.only 68 10 ?_ (by first | rfl | simp -implicitDefEqProofs [z1, z2, z3, z4, z5, z6, z7, z8, g62]) (by rfl)⟩
        simp -implicitDefEqProofs [z1, z2, z3, z4, z5, z6, z7, z8, g62, g62']
    · try (exfalso; revert g62; simp; done)
      all_goals
        have g62' := g62; first | simp only [dT, dF] at g62' | try simp at g62'
        refine WpO.run tabOk 6 (by simp -implicitDefEqProofs [z1, z2, z3, z4, z5, z6, z7, z8, g62] <;> first | exact ⟨rfl, rfl⟩ | rfl) ?_
        refine WpO.nil ?_
        refine ⟨rfl, Gh.only 68 10 ?_ (by first | rfl | simp -implicitDefEqProofs [z1, z2, z3, z4, z5, z6, z7, z8, g62]) (by rfl)⟩
        simp -implicitDefEqProofs [z1, z2, z3, z4, z5, z6, z7, z8, g62, g62']
  refine WpC.condF (by simp -implicitDefEqProofs [z1, z2, z3, z4, z5, z6, z7, z8] <;> rfl) ?_
  refine WpC.skip ?_
  refine WpC.seq ?_
  refine WpC.seq (WpC.ops tabOk (r := []) (by simp -implicitDefEqProofs [z1, z2, z3, z4, z5, z6, z7, z8] <;> rfl) rfl ?_)
  refine WpC.condF (by simp -implicitDefEqProofs [z1, z2, z3, z4, z5, z6, z7, z8] <;> rfl) ?_
  refine WpC.skip ?_
  refine WpC.seq (WpC.ops tabOk (r := []) (by simp -implicitDefEqProofs [z1, z2, z3, z4, z5, z6, z7, z8] <;> rfl) rfl ?_)
  refine WpC.seq ?_
  refine WpC.seq (WpC.ops tabOk (r := []) (by simp -implicitDefEqProofs [z1, z2, z3, z4, z5, z6, z7, z8] <;> rfl) rfl ?_)
  refine WpC.condF (by simp -implicitDefEqProofs [z1, z2, z3, z4, z5, z6, z7, z8] <;> rfl) ?_
  refine WpC.skip ?_
  refine WpC.seq (WpC.ops tabOk (r := []) (by simp -implicitDefEqProofs [z1, z2, z3, z4, z5, z6, z7, z8] <;> rfl) rfl ?_)
  refine WpC.ret ?_
  try simp only [blockQ, seqQ]
  refine retD_i (by simp -implicitDefEqProofs [z1, z2, z3, z4, z5, z6, z7, z8] <;> rfl) (by simp -implicitDefEqProofs [z1, z2, z3, z4, z5, z6, z7, z8] <;> rfl) ?_
  simp -implicitDefEqProofs [z1, z2, z3, z4, z5, z6, z7, z8]

def cmpI (x y : Int) : Int := if x < y then -1 else if x = y then 0 else 1
theorem larger_ok (x y : Nat) : Gives Try.prog 74 [.d (.int .u64 (x / 18446744073709551616 : Nat)), .d (.int .u64 (x % 18446744073709551616 : Nat)), .d (.int .u64 (y / 18446744073709551616 : Nat)), .d (.int .u64 (y % 18446744073709551616 : Nat))] (.d (dI (cmpI x y))) := by
  obtain ⟨h1, e1⟩ : ∃ q, x / 18446744073709551616 = q := ⟨_, rfl⟩
  obtain ⟨l1, e2⟩ : ∃ q, x % 18446744073709551616 = q := ⟨_, rfl⟩
  obtain ⟨h2, e3⟩ : ∃ q, y / 18446744073709551616 = q := ⟨_, rfl⟩
  obtain ⟨l2, e4⟩ : ∃ q, y % 18446744073709551616 = q := ⟨_, rfl⟩
  rw [e1, e2, e3, e4]
  refine Gives.enter tabOk Try.func74 rfl (by show 4 ≤ 32; decide) ?_
  simp only [Try.f74]
  refine WpC.seq (WpC.ops tabOk (r := []) (by simp -implicitDefEqProofs <;> rfl) rfl ?_)
  refine WpC.seq ?_
  refine WpC.block ?_
  refine WpC.seq ?_
  refine WpC.val 9 (.d (.bool (decide (h2 < h1 ∨ (h1 = h2 ∧ l2 < l1))))) ?_ ?_
  · refine WpC.region ?_
    refine WpO.run tabOk 4 (by simp -implicitDefEqProofs <;> first | exact ⟨rfl, rfl⟩ | rfl) ?_
    refine WpO.splitB 13 (by simp -implicitDefEqProofs <;> rfl) (by rfl) (fun g13 => ?_) (fun g13 => ?_)
    · try (exfalso; revert g13; simp; done)
      all_goals
        have g13' := g13; first | simp only [dT, dF] at g13' | try simp at g13'
        refine WpO.run tabOk 10 (by simp -implicitDefEqProofs [g13] <;> first | exact ⟨rfl, rfl⟩ | rfl) ?_
        refine WpO.nil ?_
        refine ⟨rfl, Gh.only 9 15 ?_ (by first | rfl | simp -implicitDefEqProofs [g13]) (by rfl)⟩
        simp -implicitDefEqProofs [g13, g13'] <;> omega
    · try (exfalso; revert g13; simp; done)
      all_goals
        have g13' := g13; first | simp only [dT, dF] at g13' | try simp at g13'
        refine WpO.run tabOk 4 (by simp -implicitDefEqProofs [g13] <;> first | exact ⟨rfl, rfl⟩ | rfl) ?_
        refine WpO.splitB 17 (by simp -implicitDefEqProofs [g13] <;> rfl) (by rfl) (fun g17 => ?_) (fun g17 => ?_)
        · try (exfalso; revert g17; simp; done)
          all_goals
            have g17' := g17; first | simp only [dT, dF] at g17' | try simp at g17'
            refine WpO.run tabOk 6 (by simp -implicitDefEqProofs [g13, g17] <;> first | exact ⟨rfl, rfl⟩ | rfl) ?_
            refine WpO.nil ?_
            refine ⟨rfl, Gh.only 9 16 ?_ (by first | rfl | simp -implicitDefEqProofs [g13, g17]) (by rfl)⟩
            simp -implicitDefEqProofs [g13, g17, g13', g17'] <;> omega
        · try (exfalso; revert g17; simp; done)
          all_goals
            have g17' := g17; first | simp only [dT, dF] at g17' | try simp at g17'
            refine WpO.run tabOk 6 (by simp -implicitDefEqProofs [g13, g17] <;> first | exact ⟨rfl, rfl⟩ | rfl) ?_
            refine WpO.nil ?_
            refine ⟨rfl, Gh.only 9 16 ?_ (by first | rfl | simp -implicitDefEqProofs [g13, g17]) (by rfl)⟩
            simp -implicitDefEqProofs [g13, g17, g13', g17'] <;> omega
  refine WpC.condD (h2 < h1 ∨ (h1 = h2 ∧ l2 < l1)) (by simp -implicitDefEqProofs) (fun d9 => ?_) (fun d9 => ?_)
  · refine WpC.seq (WpC.ops tabOk (r := []) (by simp -implicitDefEqProofs [d9] <;> rfl) rfl ?_)
    refine WpC.ret ?_
    try simp only [blockQ, seqQ]
    refine retD_i (by simp -implicitDefEqProofs [d9] <;> rfl) (by simp -implicitDefEqProofs [d9] <;> rfl) ?_
    rw [show cmpI x y = 1 from by unfold cmpI; rw [if_neg (by omega), if_neg (by omega)]]; simp
  · refine WpC.seq ?_
    refine WpC.val 23 (.d (.bool (decide ((h1 : Int) = h2 ∧ (l1 : Int) = l2)))) ?_ ?_
    · refine WpC.region ?_
      refine WpO.run tabOk 4 (by simp -implicitDefEqProofs [d9] <;> first | exact ⟨rfl, rfl⟩ | rfl) ?_
      refine WpO.splitB 27 (by simp -implicitDefEqProofs [d9] <;> rfl) (by rfl) (fun g27 => ?_) (fun g27 => ?_)
      · try (exfalso; revert g27; simp; done)
        all_goals
          have g27' := g27; first | simp only [dT, dF] at g27' | try simp at g27'
          refine WpO.run tabOk 5 (by simp -implicitDefEqProofs [d9, g27] <;> first | exact ⟨rfl, rfl⟩ | rfl) ?_
          refine WpO.nil ?_
          refine ⟨rfl, Gh.only 23 10 ?_ (by first | rfl | simp -implicitDefEqProofs [d9, g27]) (by rfl)⟩
          simp -implicitDefEqProofs [d9, g27, g27'] <;> omega
      · try (exfalso; revert g27; simp; done)
        all_goals
          have g27' := g27; first | simp only [dT, dF] at g27' | try simp at g27'
          refine WpO.run tabOk 5 (by simp -implicitDefEqProofs [d9, g27] <;> first | exact ⟨rfl, rfl⟩ | rfl) ?_
          refine WpO.nil ?_
          refine ⟨rfl, Gh.only 23 10 ?_ (by first | rfl | simp -implicitDefEqProofs [d9, g27]) (by rfl)⟩
          simp -implicitDefEqProofs [d9, g27, g27'] <;> omega
    refine WpC.condD ((h1 : Int) = h2 ∧ (l1 : Int) = l2) (by simp -implicitDefEqProofs [d9]) (fun d23 => ?_) (fun d23 => ?_)
    · refine WpC.seq (WpC.ops tabOk (r := []) (by simp -implicitDefEqProofs [d9, d23] <;> rfl) rfl ?_)
      refine WpC.ret ?_
      try simp only [blockQ, seqQ]
      refine retD_i (by simp -implicitDefEqProofs [d9, d23] <;> rfl) (by simp -implicitDefEqProofs [d9, d23] <;> rfl) ?_
      rw [show cmpI x y = 0 from by unfold cmpI; rw [if_neg (by omega), if_pos (by omega)]]; simp
    · refine WpC.skip ?_
      refine WpC.seq (WpC.ops tabOk (r := []) (by simp -implicitDefEqProofs [d9, d23] <;> rfl) rfl ?_)
      refine WpC.ret ?_
      try simp only [blockQ, seqQ]
      refine retD_i (by simp -implicitDefEqProofs [d9, d23] <;> rfl) (by simp -implicitDefEqProofs [d9, d23] <;> rfl) ?_
      rw [show cmpI x y = -1 from by unfold cmpI; rw [if_pos (by omega)]]; simp

def inA (n : Int) : Prop := -9223372036854775807 ≤ n ∧ n ≤ 9223372036854775807
theorem product_ok (a b : Int) (ha : inA a) (hb : inA b) : Gives Try.prog 73 [.d (dI a), .d (dI b)] (.tup [.d (.bool (decide (a * b < 0))), .d (.int .u64 ((a * b).natAbs / 18446744073709551616 : Nat)), .d (.int .u64 ((a * b).natAbs % 18446744073709551616 : Nat))]) := by
  have s1 := size_ok a (by unfold inA at ha; omega)
  have s2 := size_ok b (by unfold inA at hb; omega)
  have hm := mul64_ok a.natAbs b.natAbs (by unfold inA at ha; omega) (by unfold inA at hb; omega)
  rw [← Int.natAbs_mul] at hm
  have hneg : a * b < 0 ↔ (a < 0 ∧ 0 < b) ∨ (0 < a ∧ b < 0) := by
    have q1 : a < 0 → b < 0 → 0 < a * b := fun h1 h2 => Int.mul_pos_of_neg_of_neg h1 h2
    have q2 : a < 0 → 0 < b → a * b < 0 := fun h1 h2 => Int.mul_neg_of_neg_of_pos h1 h2
    have q3 : 0 < a → b < 0 → a * b < 0 := fun h1 h2 => Int.mul_neg_of_pos_of_neg h1 h2
    have q4 : 0 < a → 0 < b → 0 < a * b := fun h1 h2 => Int.mul_pos h1 h2
    have q5 : a = 0 → a * b = 0 := fun h => by rw [h, Int.zero_mul]
    have q6 : b = 0 → a * b = 0 := fun h => by rw [h, Int.mul_zero]
    generalize a * b = p at *
    omega
  have hzero : a * b = 0 ↔ a = 0 ∨ b = 0 := Int.mul_eq_zero
  obtain ⟨p, hp⟩ : ∃ p, a * b = p := ⟨_, rfl⟩
  rw [hp] at hm hneg hzero ⊢
  obtain ⟨h, e1⟩ : ∃ q, p.natAbs / 18446744073709551616 = q := ⟨_, rfl⟩
  obtain ⟨l, e2⟩ : ∃ q, p.natAbs % 18446744073709551616 = q := ⟨_, rfl⟩
  have hz : (0 < h ∨ 0 < l) ↔ p ≠ 0 := by omega
  rw [e1, e2] at hm ⊢
  clear e1 e2
  refine Gives.enter tabOk Try.func73 rfl (by show 2 ≤ 32; decide) ?_
  simp only [Try.f73]
  refine WpC.seq (WpC.ops tabOk (r := []) (by simp -implicitDefEqProofs <;> rfl) rfl ?_)
  refine WpC.seq ?_
  refine WpC.region ?_
  refine WpO.run tabOk 1 (by simp -implicitDefEqProofs <;> first | exact ⟨rfl, rfl⟩ | rfl) ?_
  refine WpO.data (by simp) rfl (by simp -implicitDefEqProofs <;> rfl) (by simp -implicitDefEqProofs <;> rfl) (by simp -implicitDefEqProofs <;> rfl) call_46 (by simp) (s1) (by rfl) (by simp -implicitDefEqProofs <;> rfl) ?_
  refine WpO.run tabOk 1 (by simp -implicitDefEqProofs <;> first | exact ⟨rfl, rfl⟩ | rfl) ?_
  refine WpO.data (by simp) rfl (by simp -implicitDefEqProofs <;> rfl) (by simp -implicitDefEqProofs <;> rfl) (by simp -implicitDefEqProofs <;> rfl) call_46 (by simp) (s2) (by rfl) (by simp -implicitDefEqProofs <;> rfl) ?_
  refine WpO.data (by simp) rfl (by simp -implicitDefEqProofs <;> rfl) (by simp -implicitDefEqProofs <;> rfl) (by simp -implicitDefEqProofs <;> rfl) call_45 (by simp) (hm) (by rfl) (by simp -implicitDefEqProofs <;> rfl) ?_
  refine WpO.run tabOk 5 (by simp -implicitDefEqProofs <;> first | exact ⟨rfl, rfl⟩ | rfl) ?_
  refine WpO.nil ?_
  refine WpC.seq ?_
  refine WpC.region ?_
  refine WpO.run tabOk 6 (by simp -implicitDefEqProofs <;> first | exact ⟨rfl, rfl⟩ | rfl) ?_
  refine WpO.splitB 22 (by simp -implicitDefEqProofs <;> rfl) (by rfl) (fun g22 => ?_) (fun g22 => ?_)
  · have g22' := g22; first | simp only [dT, dF] at g22' | try simp at g22'
    refine WpO.run tabOk 3 (by simp -implicitDefEqProofs [g22] <;> first | exact ⟨rfl, rfl⟩ | rfl) ?_
    refine WpO.splitB 25 (by simp -implicitDefEqProofs [g22] <;> rfl) (by rfl) (fun g25 => ?_) (fun g25 => ?_)
    · have g25' := g25; first | simp only [dT, dF] at g25' | try simp at g25'
      refine WpO.run tabOk 9 (by simp -implicitDefEqProofs [g22, g25] <;> first | exact ⟨rfl, rfl⟩ | rfl) ?_
      refine WpO.nil ?_
      refine WpC.ret ?_
      try simp only [blockQ, seqQ]
      refine retD_i (by simp -implicitDefEqProofs [g22, g25] <;> rfl) (by simp -implicitDefEqProofs [g22, g25] <;> rfl) ?_
      simp -implicitDefEqProofs only [pack, leR, FV.le]; first | omega | (simp; omega) | simp
    · have g25' := g25; first | simp only [dT, dF] at g25' | try simp at g25'
      refine WpO.run tabOk 9 (by simp -implicitDefEqProofs [g22, g25] <;> first | exact ⟨rfl, rfl⟩ | rfl) ?_
      refine WpO.nil ?_
      refine WpC.ret ?_
      try simp only [blockQ, seqQ]
      refine retD_i (by simp -implicitDefEqProofs [g22, g25] <;> rfl) (by simp -implicitDefEqProofs [g22, g25] <;> rfl) ?_
      simp -implicitDefEqProofs only [pack, leR, FV.le]; first | omega | (simp; omega) | simp
  · have g22' := g22; first | simp only [dT, dF] at g22' | try simp at g22'
    refine WpO.run tabOk 12 (by simp -implicitDefEqProofs [g22] <;> first | exact ⟨rfl, rfl⟩ | rfl) ?_
    refine WpO.nil ?_
    refine WpC.ret ?_
    try simp only [blockQ, seqQ]
    refine retD_i (by simp -implicitDefEqProofs [g22] <;> rfl) (by simp -implicitDefEqProofs [g22] <;> rfl) ?_
    simp -implicitDefEqProofs only [pack, leR, FV.le]; first | omega | (simp; omega) | simp
end Go.Proofs.Ytaobnhenjldjeaa.Pay
/- Blocks of a row change places: slices' swapRange and rotate. No statement of the seed is proved here. -/
namespace Go.Proofs.Ytaobnhenjldjeaa.Pay
open Go Go.RowKit
set_option linter.unusedVariables false
set_option linter.unusedSimpArgs false

/-- What stays in a segment: numbers outside stay where they are, those inside come from inside, unlike ones stay unlike. -/
structure Mv (a b : Nat) (g h : Nat → Int) : Prop where
  out : ∀ i, i < a ∨ b ≤ i → h i = g i
  src : ∀ i, a ≤ i → i < b → ∃ j, a ≤ j ∧ j < b ∧ h i = g j
  inj : (∀ i j, a ≤ i → i < b → a ≤ j → j < b → g i = g j → i = j) → ∀ i j, a ≤ i → i < b → a ≤ j → j < b → h i = h j → i = j
theorem Mv.refl (a b : Nat) (g : Nat → Int) : Mv a b g g := ⟨fun _ _ => rfl, fun i h1 h2 => ⟨i, h1, h2, rfl⟩, fun h => h⟩
theorem Mv.trans {a b : Nat} {g h k : Nat → Int} (x : Mv a b g h) (y : Mv a b h k) : Mv a b g k :=
  ⟨fun i hi => (y.out i hi).trans (x.out i hi), fun i h1 h2 => by
    obtain ⟨j, j1, j2, e⟩ := y.src i h1 h2
    obtain ⟨l, l1, l2, e2⟩ := x.src j j1 j2
    exact ⟨l, l1, l2, e.trans e2⟩, fun h => y.inj (x.inj h)⟩
theorem Mv.wide {a b a' b' : Nat} {g h : Nat → Int} (x : Mv a b g h) (h1 : a' ≤ a) (h2 : b ≤ b') : Mv a' b' g h :=
  ⟨fun i hi => x.out i (by omega), fun i i1 i2 => by
    by_cases hi : a ≤ i ∧ i < b
    · obtain ⟨j, j1, j2, e⟩ := x.src i hi.1 hi.2
      exact ⟨j, by omega, by omega, e⟩
    · exact ⟨i, i1, i2, x.out i (by omega)⟩, fun hg i j i1 i2 j1 j2 e => by
    have hin := x.inj fun i j a1 a2 a3 a4 e => hg i j (by omega) (by omega) (by omega) (by omega) e
    by_cases hi : a ≤ i ∧ i < b
    · by_cases hj : a ≤ j ∧ j < b
      · exact hin i j hi.1 hi.2 hj.1 hj.2 e
      · obtain ⟨k, k1, k2, e2⟩ := x.src i hi.1 hi.2
        rw [e2, x.out j (by omega)] at e
        have := hg k j (by omega) (by omega) j1 j2 e
        omega
    · by_cases hj : a ≤ j ∧ j < b
      · obtain ⟨k, k1, k2, e2⟩ := x.src j hj.1 hj.2
        rw [e2, x.out i (by omega)] at e
        have := hg i k i1 i2 (by omega) (by omega) e
        omega
      · rw [x.out i (by omega), x.out j (by omega)] at e
        exact hg i j i1 i2 j1 j2 e⟩
/-- By a rule that tells where each number comes from. -/
theorem Mv.of {a b : Nat} {g h : Nat → Int} (σ : Nat → Nat) (h0 : ∀ i, h i = g (σ i)) (h1 : ∀ i, i < a ∨ b ≤ i → σ i = i) (h2 : ∀ i, a ≤ i → i < b → a ≤ σ i ∧ σ i < b) (h3 : ∀ i j, a ≤ i → i < b → a ≤ j → j < b → σ i = σ j → i = j) : Mv a b g h :=
  ⟨fun i hi => by rw [h0, h1 i hi], fun i i1 i2 => ⟨σ i, (h2 i i1 i2).1, (h2 i i1 i2).2, h0 i⟩, fun hg i j i1 i2 j1 j2 e => by
    rw [h0, h0] at e
    exact h3 i j i1 i2 j1 j2 (hg _ _ (h2 i i1 i2).1 (h2 i i1 i2).2 (h2 j j1 j2).1 (h2 j j1 j2).2 e)⟩

def sw (g : Nat → Int) (i j : Nat) : Nat → Int := upd (upd g i (g j)) j (g i)
theorem sw_at (g : Nat → Int) (i j k : Nat) : sw g i j k = if k = j then g i else if k = i then g j else g k := rfl
theorem Mv.sw {a b i j : Nat} (g : Nat → Int) (h1 : a ≤ i) (h2 : i < b) (h3 : a ≤ j) (h4 : j < b) : Mv a b g (sw g i j) :=
  Mv.of (fun k => if k = j then i else if k = i then j else k) (fun k => by
    rw [sw_at]
    by_cases e1 : k = j
    · simp [e1]
    · by_cases e2 : k = i
      · simp [e1, e2]; split <;> rfl
      · simp [e1, e2]) (fun k hk => by rw [if_neg (by omega), if_neg (by omega)]) (fun k k1 k2 => by split <;> (try split) <;> omega) (fun k l k1 k2 l1 l2 e => by
    split at e <;> split at e <;> (try split at e) <;> (try split at e) <;> omega)

/-- Two blocks of c numbers, at a and at b, change places. -/
def swR (g : Nat → Int) (a b c : Nat) : Nat → Int := fun i => if a ≤ i ∧ i < a + c then g (b + (i - a)) else if b ≤ i ∧ i < b + c then g (a + (i - b)) else g i
theorem swR_zero (g : Nat → Int) (a b : Nat) : swR g a b 0 = g := by
  funext i
  unfold swR
  rw [if_neg (by omega), if_neg (by omega)]
theorem swR_step (g : Nat → Int) {a b c : Nat} (h : a + c < b) : sw (swR g a b c) (a + c) (b + c) = swR g a b (c + 1) := by
  funext i
  rw [sw_at]
  unfold swR
  by_cases e1 : i = b + c
  · subst e1
    rw [if_pos rfl, if_neg (by omega), if_neg (by omega), if_neg (by omega), if_pos (by omega)]
    congr 1; omega
  · rw [if_neg e1]
    by_cases e2 : i = a + c
    · subst e2
      rw [if_pos rfl, if_neg (by omega), if_neg (by omega), if_pos (by omega)]
      congr 1; omega
    · rw [if_neg e2]
      by_cases e3 : a ≤ i ∧ i < a + c
      · rw [if_pos e3, if_pos (by omega)]
      · rw [if_neg e3, if_neg (c := a ≤ i ∧ i < a + (c + 1)) (by omega)]
        by_cases e4 : b ≤ i ∧ i < b + c
        · rw [if_pos e4, if_pos (by omega)]
        · rw [if_neg e4, if_neg (by omega)]

section
variable (cT cS : Int) (cW cP : List D)
theorem swapRange_ok (g : Nat → Int) (n a b c : Nat) (h1 : a + c ≤ b) (h2 : b + c ≤ n) (hn : n ≤ 1000000) :
    WpF Try.prog 84 [.sl 0 n, .d (dI a), .d (dI b), .d (dI c), .fn 34 [.dp [dI cT], .dp [dI cS], .dp [.list 1 cW], .dp [.list 1 cP]]] [.arr 3 1 (rowF g n)]
      fun r S => r = .tup [] ∧ S = [.arr 3 1 (rowF (swR g a b c) n)] := by
  have hz := swR_zero g a b
  refine WpF.enter tabOk Try.func84 rfl (by show 5 ≤ 38; decide) ?_
  simp only [Try.f84]
  refine WpC.seq (WpC.ops tabOk (r := []) (by simp -implicitDefEqProofs [hz] <;> rfl) rfl ?_)
  refine WpC.block ?_
  refine WpC.loopK [0, 1, 2, 3] [10] (c) (() : Unit) (fun k _ => [(10, .d (.int .i64 k))]) (fun k _ => [.arr 3 1 (rowF (swR g a b k) n)]) (fun k _ => True) (by simp -implicitDefEqProofs [hz] <;> rfl) (Gh.cut' [10, 0, 1, 2, 3] 1 (by simp -implicitDefEqProofs [hz]) (by simp -implicitDefEqProofs [hz]) rfl (by simp) (by simp) (by simp)) (by trivial) ?_
  rintro k ⟨⟩ hk hi
  simp only [List.cons_append, List.nil_append]
  refine WpC.seq ?_
  refine WpC.seq (WpC.ops tabOk (r := []) (by simp -implicitDefEqProofs [hz] <;> rfl) rfl ?_)
  refine WpC.condD (k < c) (by simp -implicitDefEqProofs [hz] <;> omega) (fun hlt => ?_) (fun hge => ?_)
  · refine WpC.skip ?_
    have hst := swR_step g (a := a) (b := b) (c := k) (by omega)
    obtain ⟨h, hh⟩ : ∃ h, swR g a b k = h := ⟨_, rfl⟩
    obtain ⟨p, hp⟩ : ∃ p, a + k = p := ⟨_, rfl⟩
    obtain ⟨q, hq⟩ : ∃ q, b + k = q := ⟨_, rfl⟩
    have hw1 : IntKind.i64.wrap ((a : Int) + k) = p := by rw [wrapI (by omega) (by omega)]; omega
    have hw2 : IntKind.i64.wrap ((b : Int) + k) = q := by rw [wrapI (by omega) (by omega)]; omega
    have hw : IntKind.i64.wrap ((k : Int) + 1) = k + 1 := wrapI (by omega) (by omega)
    have hpn : p < n := by omega
    have hqn : q < n := by omega
    rw [hh, hp, hq] at hst
    unfold sw at hst
    refine WpC.seq ?_
    refine WpC.block ?_
    refine WpC.drawn tabOk (by kernel_rfl) 0 (by simp) ?_
    refine DrO.run (fz := []) 3 (by simp -implicitDefEqProofs [hz, hlt, hh, hw, hw1, hw2, hpn, hqn] <;> first | exact ⟨rfl, rfl, rfl, rfl⟩ | rfl) ?_
    refine DrO.run (fz := []) 3 (by simp -implicitDefEqProofs [hz, hlt, hh, hw, hw1, hw2, hpn, hqn] <;> first | exact ⟨rfl, rfl, rfl, rfl⟩ | rfl) ?_
    refine DrO.run (fz := []) 3 (by simp -implicitDefEqProofs [hz, hlt, hh, hw, hw1, hw2, hpn, hqn] <;> first | exact ⟨rfl, rfl, rfl, rfl⟩ | rfl) ?_
    refine DrO.run (fz := []) 3 (by simp -implicitDefEqProofs [hz, hlt, hh, hw, hw1, hw2, hpn, hqn] <;> first | exact ⟨rfl, rfl, rfl, rfl⟩ | rfl) ?_
    refine DrO.run (fz := []) 3 (by simp -implicitDefEqProofs [hz, hlt, hh, hw, hw1, hw2, hpn, hqn] <;> first | exact ⟨rfl, rfl, rfl, rfl⟩ | rfl) ?_
    refine DrO.run (fz := []) 3 (by simp -implicitDefEqProofs [hz, hlt, hh, hw, hw1, hw2, hpn, hqn] <;> first | exact ⟨rfl, rfl, rfl, rfl⟩ | rfl) ?_
    refine DrO.run (fz := []) 3 (by simp -implicitDefEqProofs [hz, hlt, hh, hw, hw1, hw2, hpn, hqn] <;> first | exact ⟨rfl, rfl, rfl, rfl⟩ | rfl) ?_
    refine DrO.run (fz := []) 3 (by simp -implicitDefEqProofs [hz, hlt, hh, hw, hw1, hw2, hpn, hqn] <;> first | exact ⟨rfl, rfl, rfl, rfl⟩ | rfl) ?_
    refine DrO.nil ⟨by kernel_rfl, ?_⟩
    refine WpC.ops tabOk (r := []) (by simp -implicitDefEqProofs [hz, hlt, hh, hw, hw1, hw2, hpn, hqn] <;> rfl) rfl ?_
    exact ⟨hlt, (), trivial, Gh.cut' [10, 0, 1, 2, 3] 1 (by simp -implicitDefEqProofs [hz, hlt, hh, hw, hw1, hw2, hpn, hqn, hst]) (by simp -implicitDefEqProofs [hz, hlt, hh, hw, hw1, hw2, hpn, hqn, hst]) rfl (by simp) (by simp) (by simp)⟩
  · refine WpC.exit ?_
    have hkn : k = c := by omega
    subst hkn
    refine ⟨.inl rfl, [], rfl, ?_, by simp⟩
    exact ⟨rfl, rfl⟩
end

/-- The blocks [a, m) and [m, b) change places. -/
def rot (g : Nat → Int) (a m b : Nat) : Nat → Int := fun i => if a ≤ i ∧ i < a + (b - m) then g (m + (i - a)) else if a + (b - m) ≤ i ∧ i < b then g (i - (b - m)) else g i
theorem rot_mv (g : Nat → Int) {a m b : Nat} (h1 : a ≤ m) (h2 : m ≤ b) : Mv a b g (rot g a m b) :=
  Mv.of (fun i => if a ≤ i ∧ i < a + (b - m) then m + (i - a) else if a + (b - m) ≤ i ∧ i < b then i - (b - m) else i) (fun i => by
    unfold rot
    split
    · rfl
    · split <;> rfl) (fun k hk => by rw [if_neg (by omega), if_neg (by omega)]) (fun k k1 k2 => by split <;> (try split) <;> omega) (fun k l k1 k2 l1 l2 e => by
    split at e <;> split at e <;> (try split at e) <;> (try split at e) <;> omega)
theorem rot_even (g : Nat → Int) {m i : Nat} (h : i ≤ m) : swR g (m - i) m i = rot g (m - i) m (m + i) := by
  funext k
  unfold swR rot
  rw [show m - i + i = m from by omega, show m + i - m = i from by omega, show m - i + i = m from by omega]
  by_cases e1 : m - i ≤ k ∧ k < m
  · rw [if_pos e1, if_pos e1]
  · rw [if_neg e1, if_neg e1]
    by_cases e2 : m ≤ k ∧ k < m + i
    · rw [if_pos e2, if_pos e2]; congr 1; omega
    · rw [if_neg e2, if_neg e2]
theorem swR_1 {g : Nat → Int} {a b c i j : Nat} (h : a ≤ i ∧ i < a + c) (e : b + (i - a) = j) : swR g a b c i = g j := by unfold swR; rw [if_pos h, e]
theorem swR_2 {g : Nat → Int} {a b c i j : Nat} (h1 : ¬ (a ≤ i ∧ i < a + c)) (h2 : b ≤ i ∧ i < b + c) (e : a + (i - b) = j) : swR g a b c i = g j := by unfold swR; rw [if_neg h1, if_pos h2, e]
theorem swR_3 {g : Nat → Int} {a b c i : Nat} (h1 : ¬ (a ≤ i ∧ i < a + c)) (h2 : ¬ (b ≤ i ∧ i < b + c)) : swR g a b c i = g i := by unfold swR; rw [if_neg h1, if_neg h2]
theorem rot_1 {g : Nat → Int} {a m b i j : Nat} (h : a ≤ i ∧ i < a + (b - m)) (e : m + (i - a) = j) : rot g a m b i = g j := by unfold rot; rw [if_pos h, e]
theorem rot_2 {g : Nat → Int} {a m b i j : Nat} (h1 : ¬ (a ≤ i ∧ i < a + (b - m))) (h2 : a + (b - m) ≤ i ∧ i < b) (e : i - (b - m) = j) : rot g a m b i = g j := by unfold rot; rw [if_neg h1, if_pos h2, e]
theorem rot_3 {g : Nat → Int} {a m b i : Nat} (h1 : ¬ (a ≤ i ∧ i < a + (b - m))) (h2 : ¬ (a + (b - m) ≤ i ∧ i < b)) : rot g a m b i = g i := by unfold rot; rw [if_neg h1, if_neg h2]
theorem rot_left (g : Nat → Int) {m i j : Nat} (h : i ≤ m) (hij : j < i) : rot (swR g (m - i) m j) (m - (i - j)) m (m + j) = rot g (m - i) m (m + j) := by
  funext k
  by_cases e1 : m - (i - j) ≤ k ∧ k < m - (i - j) + j
  · rw [rot_1 (j := m + (k - (m - (i - j)))) (by omega) rfl, swR_2 (j := k - j) (by omega) (by omega) (by omega), rot_2 (j := k - j) (by omega) (by omega) (by omega)]
  · by_cases e2 : m - (i - j) + j ≤ k ∧ k < m + j
    · rw [rot_2 (j := k - j) (by omega) (by omega) (by omega), swR_3 (by omega) (by omega), rot_2 (j := k - j) (by omega) (by omega) (by omega)]
    · rw [rot_3 (by omega) (by omega)]
      by_cases e3 : m - i ≤ k ∧ k < m - i + j
      · rw [swR_1 e3 rfl, rot_1 (by omega) rfl]
      · rw [swR_3 e3 (by omega), rot_3 (by omega) (by omega)]
theorem rot_right (g : Nat → Int) {m i j : Nat} (h : i ≤ m) (hij : i < j) : rot (swR g (m - i) (m + j - i) i) (m - i) m (m + (j - i)) = rot g (m - i) m (m + j) := by
  funext k
  by_cases e1 : m - i ≤ k ∧ k < m - i + (j - i)
  · rw [rot_1 (j := m + (k - (m - i))) (by omega) rfl, rot_1 (g := g) (j := m + (k - (m - i))) (by omega) rfl, swR_3 (by omega) (by omega)]
  · by_cases e2 : m - i + (j - i) ≤ k ∧ k < m + (j - i)
    · rw [rot_2 (j := k - (j - i)) (by omega) (by omega) (by omega)]
      rw [swR_1 (j := m + (k - (m - i))) (by omega) (by omega), rot_1 (g := g) (j := m + (k - (m - i))) (by omega) rfl]
    · rw [rot_3 (by omega) (by omega)]
      by_cases e3 : m + j - i ≤ k ∧ k < m + j - i + i
      · rw [swR_2 (j := k - j) (by omega) e3 (by omega), rot_2 (j := k - j) (by omega) (by omega) (by omega)]
      · rw [swR_3 (by omega) e3, rot_3 (by omega) (by omega)]

section
variable (cT cS : Int) (cW cP : List D)
theorem rotate_ok (g : Nat → Int) (n a m b : Nat) (h1 : a < m) (h2 : m < b) (h3 : b ≤ n) (hn : n ≤ 1000000) :
    WpF Try.prog 82 [.sl 0 n, .d (dI a), .d (dI m), .d (dI b), .fn 34 [.dp [dI cT], .dp [dI cS], .dp [.list 1 cW], .dp [.list 1 cP]]] [.arr 3 1 (rowF g n)]
      fun r S => r = .tup [] ∧ S = [.arr 3 1 (rowF (rot g a m b) n)] := by
  have hi1 : IntKind.i64.wrap ((m : Int) - a) = ((m - a : Nat) : Int) := by rw [wrapI (by omega) (by omega)]; omega
  have hj1 : IntKind.i64.wrap ((b : Int) - m) = ((b - m : Nat) : Int) := by rw [wrapI (by omega) (by omega)]; omega
  refine WpF.enter tabOk Try.func82 rfl (by show 5 ≤ 58; decide) ?_
  simp only [Try.f82]
  refine WpC.seq (WpC.ops tabOk (r := []) (by simp -implicitDefEqProofs [hi1, hj1] <;> rfl) rfl ?_)
  refine WpC.seq (WpC.ops tabOk (r := []) (by simp -implicitDefEqProofs [hi1, hj1] <;> rfl) rfl ?_)
  refine WpC.seq ?_
  refine WpC.block ?_
  refine WpC.loopM [0, 2, 4] [10, 11] (fun x => x.1 + x.2.1) ((m - a, b - m, g) : Nat × Nat × (Nat → Int)) (fun x => [(10, .d (dI (x.1 : Nat))), (11, .d (dI (x.2.1 : Nat)))]) (fun x => [.arr 3 1 (rowF x.2.2 n)]) (fun x => 0 < x.1 ∧ 0 < x.2.1 ∧ x.1 ≤ m ∧ m + x.2.1 ≤ n ∧ rot x.2.2 (m - x.1) m (m + x.2.1) = rot g a m b) (by simp -implicitDefEqProofs [hi1, hj1] <;> rfl) (Gh.cut' [10, 11, 0, 2, 4] 1 (by simp -implicitDefEqProofs [hi1, hj1]) (by simp -implicitDefEqProofs [hi1, hj1]) rfl (by simp) (by simp) (by simp)) (⟨by simp; omega, by simp; omega, by simp, by simp; omega, by simp only; congr 1 <;> omega⟩) ?_
  rintro x hi
  simp only [List.cons_append, List.nil_append]
  obtain ⟨i, j, h⟩ := x
  obtain ⟨h4, h5, h6, h7, h8⟩ := hi
  simp only at h4 h5 h6 h7 h8 ⊢
  refine WpC.seq ?_
  refine WpC.seq (WpC.ops tabOk (r := []) (by simp -implicitDefEqProofs [hi1, hj1] <;> rfl) rfl ?_)
  refine WpC.condR (by simp -implicitDefEqProofs [hi1, hj1] <;> rfl) (by rfl) (fun c20 => ?_) (fun c20 => ?_)
  · have c20' := c20; first | simp only [dT, dF] at c20' | try simp at c20'
    refine WpC.skip ?_
    refine WpC.block ?_
    refine WpC.seq (WpC.ops tabOk (r := []) (by simp -implicitDefEqProofs [hi1, hj1, c20] <;> rfl) rfl ?_)
    refine WpC.condR (by simp -implicitDefEqProofs [hi1, hj1, c20] <;> rfl) (by rfl) (fun c23 => ?_) (fun c23 => ?_)
    · have c23' := c23; first | simp only [dT, dF] at c23' | try simp at c23'
      have hij : j < i := by simpa using c23
      have hw1 : IntKind.i64.wrap ((m : Int) - i) = ((m - i : Nat) : Int) := by rw [wrapI (by omega) (by omega)]; omega
      have hw2 : IntKind.i64.wrap ((i : Int) - j) = ((i - j : Nat) : Int) := by rw [wrapI (by omega) (by omega)]; omega
      have hc := swapRange_ok cT cS cW cP h n (m - i) m j (by omega) (by omega) hn
      refine WpC.seq ?_
      refine WpC.region ?_
      refine WpO.run tabOk 7 (by simp -implicitDefEqProofs [hi1, hj1, c20, c23, hw1, hw2] <;> first | exact ⟨rfl, rfl⟩ | rfl) ?_
      refine WpO.callP [0] (by simp) rfl (by simp -implicitDefEqProofs [hi1, hj1, c20, c23, hw1, hw2] <;> rfl) (by simp -implicitDefEqProofs [hi1, hj1, c20, c23, hw1, hw2] <;> rfl) call_84 (by simp) (by simp) (by simp) (by simp -implicitDefEqProofs [hi1, hj1, c20, c23, hw1, hw2]) (by simp; rfl) (by simp -implicitDefEqProofs [hi1, hj1, c20, c23, hw1, hw2]) ( hc) fun r S1 hr => ?_
      obtain ⟨rfl, rfl⟩ := hr
      refine ⟨_, by simp -implicitDefEqProofs [hi1, hj1, c20, c23, hw1, hw2] <;> rfl, ?_⟩
      refine WpO.nil ?_
      refine WpC.ops tabOk (r := []) (by simp -implicitDefEqProofs [hi1, hj1, c20, c23, hw1, hw2] <;> rfl) rfl ?_
      exact ⟨(i - j, j, swR h (m - i) m j), ⟨by simp; omega, h5, by simp; omega, h7, by rw [← h8]; exact rot_left h h6 hij⟩, by simp; omega, Gh.cut' [10, 11, 0, 2, 4] 1 (by simp -implicitDefEqProofs [hi1, hj1, c20, c23, hw1, hw2, c20', c23']) (by simp -implicitDefEqProofs [hi1, hj1, c20, c23, hw1, hw2, c20', c23']) rfl (by simp) (by simp) (by simp)⟩
    · have c23' := c23; first | simp only [dT, dF] at c23' | try simp at c23'
      have hij : ¬ j < i := by simpa using c23
      have hij2 : i < j := by simp at c20; omega
      have hw1 : IntKind.i64.wrap ((m : Int) - i) = ((m - i : Nat) : Int) := by rw [wrapI (by omega) (by omega)]; omega
      have hw2 : IntKind.i64.wrap ((j : Int) - i) = ((j - i : Nat) : Int) := by rw [wrapI (by omega) (by omega)]; omega
      have hw3 : IntKind.i64.wrap ((m : Int) + j) = ((m + j : Nat) : Int) := by rw [wrapI (by omega) (by omega)]; omega
      have hw4 : IntKind.i64.wrap (((m + j : Nat) : Int) - i) = ((m + j - i : Nat) : Int) := by rw [wrapI (by omega) (by omega)]; omega
      have hw5 : IntKind.i64.wrap ((m : Int) + j - i) = ((m + j - i : Nat) : Int) := by rw [wrapI (by omega) (by omega)]; omega
      have hc := swapRange_ok cT cS cW cP h n (m - i) (m + j - i) i (by omega) (by omega) hn
      refine WpC.seq ?_
      refine WpC.region ?_
      refine WpO.run tabOk 11 (by simp -implicitDefEqProofs [hi1, hj1, c20, c23, hw1, hw2, hw3, hw4, hw5] <;> first | exact ⟨rfl, rfl⟩ | rfl) ?_
      refine WpO.callP [0] (by simp) rfl (by simp -implicitDefEqProofs [hi1, hj1, c20, c23, hw1, hw2, hw3, hw4, hw5] <;> rfl) (by simp -implicitDefEqProofs [hi1, hj1, c20, c23, hw1, hw2, hw3, hw4, hw5] <;> rfl) call_84 (by simp) (by simp) (by simp) (by simp -implicitDefEqProofs [hi1, hj1, c20, c23, hw1, hw2, hw3, hw4, hw5]) (by simp; rfl) (by simp -implicitDefEqProofs [hi1, hj1, c20, c23, hw1, hw2, hw3, hw4, hw5]) ( hc) fun r S1 hr => ?_
      obtain ⟨rfl, rfl⟩ := hr
      refine ⟨_, by simp -implicitDefEqProofs [hi1, hj1, c20, c23, hw1, hw2, hw3, hw4, hw5] <;> rfl, ?_⟩
      refine WpO.nil ?_
      refine WpC.ops tabOk (r := []) (by simp -implicitDefEqProofs [hi1, hj1, c20, c23, hw1, hw2, hw3, hw4, hw5] <;> rfl) rfl ?_
      exact ⟨(i, j - i, swR h (m - i) (m + j - i) i), ⟨h4, by simp; omega, h6, by simp; omega, by rw [← h8]; exact rot_right h h6 hij2⟩, by simp; omega, Gh.cut' [10, 11, 0, 2, 4] 1 (by simp -implicitDefEqProofs [hi1, hj1, c20, c23, hw1, hw2, hw3, hw4, hw5, c20', c23']) (by simp -implicitDefEqProofs [hi1, hj1, c20, c23, hw1, hw2, hw3, hw4, hw5, c20', c23']) rfl (by simp) (by simp) (by simp)⟩
  · have c20' := c20; first | simp only [dT, dF] at c20' | try simp at c20'
    refine WpC.exit ?_
    have hij : i = j := by simp at c20; omega
    subst hij
    have hw1 : IntKind.i64.wrap ((m : Int) - i) = ((m - i : Nat) : Int) := by rw [wrapI (by omega) (by omega)]; omega
    have hc := swapRange_ok cT cS cW cP h n (m - i) m i (by omega) (by omega) hn
    rw [rot_even h h6, h8] at hc
    refine WpC.region ?_
    refine WpO.run tabOk 7 (by simp -implicitDefEqProofs [hi1, hj1, c20, hw1] <;> first | exact ⟨rfl, rfl⟩ | rfl) ?_
    refine WpO.callP [0] (by simp) rfl (by simp -implicitDefEqProofs [hi1, hj1, c20, hw1] <;> rfl) (by simp -implicitDefEqProofs [hi1, hj1, c20, hw1] <;> rfl) call_84 (by simp) (by simp) (by simp) (by simp -implicitDefEqProofs [hi1, hj1, c20, hw1]) (by simp; rfl) (by simp -implicitDefEqProofs [hi1, hj1, c20, hw1]) ( hc) fun r S1 hr => ?_
    obtain ⟨rfl, rfl⟩ := hr
    refine ⟨_, by simp -implicitDefEqProofs [hi1, hj1, c20, hw1] <;> rfl, ?_⟩
    refine WpO.nil ?_
    refine ⟨.inl rfl, [], rfl, ?_, by simp⟩
    exact ⟨rfl, rfl⟩
end
end Go.Proofs.Ytaobnhenjldjeaa.Pay
/- Sorting by insertion. No statement of the seed is proved here. -/
namespace Go.Proofs.Ytaobnhenjldjeaa.Pay
open Go Go.RowKit
set_option linter.unusedVariables false
set_option linter.unusedSimpArgs false

/-- A comparison that orders the numbers that are ok. -/
structure Cmp (c : Int → Int → Int) (ok : Int → Prop) : Prop where
  asym : ∀ x y, ok x → ok y → c x y < 0 → ¬ c y x < 0
  tr : ∀ x y z, ok x → ok y → ok z → c x y < 0 → c y z < 0 → c x z < 0
  tot : ∀ x y, ok x → ok y → x ≠ y → c x y < 0 ∨ c y x < 0
section
variable {c : Int → Int → Int} {ok : Int → Prop}
theorem Cmp.le (h : Cmp c ok) {x y z : Int} (hx : ok x) (hy : ok y) (hz : ok z) (h1 : ¬ c y x < 0) (h2 : ¬ c z y < 0) : ¬ c z x < 0 := fun h3 => by
  by_cases e : x = y
  · subst e; exact h2 h3
  · have := (h.tot x y hx hy e).resolve_right h1
    exact h2 (h.tr z x y hz hx hy h3 this)
def Srtd (c : Int → Int → Int) (g : Nat → Int) (a b : Nat) : Prop := ∀ i j, a ≤ i → i < j → j < b → ¬ c (g j) (g i) < 0
def AllOk (ok : Int → Prop) (g : Nat → Int) (n : Nat) : Prop := ∀ i, i < n → ok (g i)
theorem Mv.okk {a b n : Nat} {g h : Nat → Int} (x : Mv a b g h) (hb : b ≤ n) (hg : AllOk ok g n) : AllOk ok h n := fun i hi => by
  by_cases hab : a ≤ i ∧ i < b
  · obtain ⟨j, j1, j2, e⟩ := x.src i hab.1 hab.2
    rw [e]; exact hg j (by omega)
  · rw [x.out i (by omega)]; exact hg i hi

structure InsI (c : Int → Int → Int) (h : Nat → Int) (a i j : Nat) : Prop where
  A : ∀ p q, a ≤ p → p < q → q ≤ i → p ≠ j → q ≠ j → ¬ c (h q) (h p) < 0
  B : ∀ q, j < q → q ≤ i → ¬ c (h q) (h j) < 0
theorem ins_begin {h : Nat → Int} {a i : Nat} (hs : Srtd c h a i) : InsI c h a i i := ⟨fun p q h1 h2 h3 h4 h5 => hs p q h1 h2 (by omega), fun q h1 h2 => by omega⟩
theorem ins_step (hc : Cmp c ok) {h : Nat → Int} {n a i j q : Nat} (hq : j - 1 = q) (hok : AllOk ok h n) (hj : j < n) (hi : InsI c h a i j) (haj : a < j) (hji : j ≤ i) (hlt : c (h j) (h q) < 0) : InsI c (sw h j q) a i q := by
  have hqj : q + 1 = j := by omega
  refine ⟨fun p r h1 h2 h3 h4 h5 => ?_, fun r h1 h2 => ?_⟩
  · rw [sw_at, sw_at, if_neg h5, if_neg h4]
    by_cases e1 : r = j
    · rw [if_pos e1, if_neg (by omega)]
      exact hi.A p q h1 (by omega) (by omega) (by omega) (by omega)
    · rw [if_neg e1]
      by_cases e2 : p = j
      · rw [if_pos e2]
        exact hi.A q r (by omega) (by omega) h3 (by omega) e1
      · rw [if_neg e2]
        exact hi.A p r h1 h2 h3 e2 e1
  · rw [sw_at, sw_at, if_neg (by omega), if_pos rfl]
    by_cases e1 : r = j
    · rw [if_pos e1]
      exact hc.asym _ _ (hok j hj) (hok q (by omega)) hlt
    · rw [if_neg e1]
      exact hi.B r (by omega) h2
theorem ins_end (hc : Cmp c ok) {h : Nat → Int} {n a i j q : Nat} (hq : j - 1 = q) (hok : AllOk ok h n) (hin : i < n) (hi : InsI c h a i j) (hji : j ≤ i) (hx : ¬ (a < j ∧ c (h j) (h q) < 0)) : Srtd c h a (i + 1) := fun p r h1 h2 h3 => by
  by_cases e1 : p = j
  · subst e1; exact hi.B r h2 (by omega)
  · by_cases e2 : r = j
    · subst e2
      have h4 : ¬ c (h r) (h q) < 0 := fun q => hx ⟨by omega, q⟩
      by_cases e3 : p = q
      · subst e3; exact h4
      · exact hc.le (hok p (by omega)) (hok q (by omega)) (hok r (by omega)) (hi.A p q h1 (by omega) (by omega) e1 (by omega)) h4
    · exact hi.A p r h1 h2 (by omega) e1 e2
end

section
variable (cT cS : Int) (cW cP : List D) {c : Int → Int → Int} {ok : Int → Prop} (hcm : Cmp c ok)
  (hcc : ∀ x y, ok x → ok y → Gives Try.prog 34 [.d (dI x), .d (dI y), .dp [dI cT], .dp [dI cS], .dp [.list 1 cW], .dp [.list 1 cP]] (.d (dI (c x y))))
include hcm hcc
set_option maxHeartbeats 4000000 in
theorem insSort_ok (g : Nat → Int) (n a b : Nat) (h1 : a ≤ b) (h2 : b ≤ n) (hn : n ≤ 1000000) (hok : AllOk ok g n) :
    WpF Try.prog 71 [.sl 0 n, .d (dI a), .d (dI b), .fn 34 [.dp [dI cT], .dp [dI cS], .dp [.list 1 cW], .dp [.list 1 cP]]] [.arr 3 1 (rowF g n)]
      fun r S => ∃ h, r = .tup [] ∧ S = [.arr 3 1 (rowF h n)] ∧ Mv a b g h ∧ Srtd c h a b := by
  have hw0 : IntKind.i64.wrap ((a : Int) + 1) = ((a + 1 : Nat) : Int) := by rw [wrapI (by omega) (by omega)]; omega
  refine WpF.enter tabOk Try.func71 rfl (by show 4 ≤ 53; decide) ?_
  simp only [Try.f71]
  refine WpC.seq (WpC.ops tabOk (r := []) (by simp -implicitDefEqProofs [hw0] <;> rfl) rfl ?_)
  refine WpC.block ?_
  refine WpC.loopM [0, 1, 2, 3] [8] (fun x => b - x.1) ((a + 1, g) : Nat × (Nat → Int)) (fun x => [(8, .d (dI (x.1 : Nat)))]) (fun x => [.arr 3 1 (rowF x.2 n)]) (fun x => a + 1 ≤ x.1 ∧ x.1 ≤ b + 1 ∧ Mv a b g x.2 ∧ Srtd c x.2 a x.1) (by simp -implicitDefEqProofs [hw0] <;> rfl) (Gh.cut' [8, 0, 1, 2, 3] 1 (by simp -implicitDefEqProofs [hw0]) (by simp -implicitDefEqProofs [hw0]) rfl (by simp) (by simp) (by simp)) (⟨by simp, by simp; omega, Mv.refl _ _ _, fun i j i1 i2 i3 => by simp at i3; omega⟩) ?_
  rintro x hi
  simp only [List.cons_append, List.nil_append]
  obtain ⟨i, h⟩ := x
  obtain ⟨h3, h4, h5, h6⟩ := hi
  simp only at h3 h4 h5 h6 ⊢
  refine WpC.seq ?_
  refine WpC.seq (WpC.ops tabOk (r := []) (by simp -implicitDefEqProofs [hw0] <;> rfl) rfl ?_)
  refine WpC.condR (by simp -implicitDefEqProofs [hw0] <;> rfl) (by rfl) (fun c14 => ?_) (fun c14 => ?_)
  · have c14' := c14; first | simp only [dT, dF] at c14' | try simp at c14'
    have hib : i < b := by simpa using c14
    have hw1 : IntKind.i64.wrap ((i : Int) + 1) = ((i + 1 : Nat) : Int) := by rw [wrapI (by omega) (by omega)]; omega
    refine WpC.skip ?_
    refine WpC.seq ?_
    refine WpC.block ?_
    refine WpC.seq (WpC.ops tabOk (r := []) (by simp -implicitDefEqProofs [hw0, c14, hw1] <;> rfl) rfl ?_)
    refine WpC.block ?_
    refine WpC.loopM [0, 1, 2, 3, 8] [9] (fun y => y.1) ((i, h) : Nat × (Nat → Int)) (fun y => [(9, .d (dI (y.1 : Nat)))]) (fun y => [.arr 3 1 (rowF y.2 n)]) (fun y => a ≤ y.1 ∧ y.1 ≤ i ∧ Mv a b g y.2 ∧ InsI c y.2 a i y.1) (by simp -implicitDefEqProofs [hw0, c14, hw1] <;> rfl) (Gh.cut' [9, 0, 1, 2, 3, 8] 1 (by simp -implicitDefEqProofs [hw0, c14, hw1]) (by simp -implicitDefEqProofs [hw0, c14, hw1]) rfl (by simp) (by simp) (by simp)) (⟨by simp; omega, by simp, h5, ins_begin h6⟩) ?_
    rintro y hi
    simp only [List.cons_append, List.nil_append]
    obtain ⟨j, h'⟩ := y
    obtain ⟨h3', h4', h5', h6'⟩ := hi
    simp only at h3' h4' h5' h6' ⊢
    obtain ⟨q, hq⟩ : ∃ q, j - 1 = q := ⟨_, rfl⟩
    have hok' := h5'.okk h2 hok
    have hjn : j < n := by omega
    have hqn : q < n := by omega
    refine WpC.seq ?_
    refine WpC.seq ?_
    refine WpC.val 34 (.d (.bool (decide (a < j ∧ c (h' j) (h' q) < 0)))) ?_ ?_
    · refine WpC.drawn tabOk (by kernel_rfl) 0 (by simp) ?_
      refine DrO.run (fz := []) 3 (by simp -implicitDefEqProofs [hw0, c14, hw1] <;> first | exact ⟨rfl, rfl, rfl, rfl⟩ | rfl) ?_
      refine DrO.run (fz := []) 1 (by simp -implicitDefEqProofs [hw0, c14, hw1] <;> first | exact ⟨rfl, rfl, rfl, rfl⟩ | rfl) ?_
      refine DrO.splitB 21 (by simp -implicitDefEqProofs [hw0, c14, hw1] <;> rfl) (by rfl) (fun g21 => ?_) (fun g21 => ?_)
      · have g21' := g21; first | simp only [dT, dF] at g21' | try simp at g21'
        have hw2 : IntKind.i64.wrap ((j : Int) - 1) = (q : Int) := by simp at g21; rw [wrapI (by omega) (by omega)]; omega
        refine DrO.run (fz := []) 3 (by simp -implicitDefEqProofs [hw0, c14, hw1, g21, hw2, hjn, hqn] <;> first | exact ⟨rfl, rfl, rfl, rfl⟩ | rfl) ?_
        refine DrO.run (fz := []) 3 (by simp -implicitDefEqProofs [hw0, c14, hw1, g21, hw2, hjn, hqn] <;> first | exact ⟨rfl, rfl, rfl, rfl⟩ | rfl) ?_
        refine DrO.run (fz := []) 3 (by simp -implicitDefEqProofs [hw0, c14, hw1, g21, hw2, hjn, hqn] <;> first | exact ⟨rfl, rfl, rfl, rfl⟩ | rfl) ?_
        refine DrO.run (fz := []) 1 (by simp -implicitDefEqProofs [hw0, c14, hw1, g21, hw2, hjn, hqn] <;> first | exact ⟨rfl, rfl, rfl, rfl⟩ | rfl) ?_
        refine DrO.data (by simp) rfl (by simp -implicitDefEqProofs [hw0, c14, hw1, g21, hw2, hjn, hqn] <;> rfl) (by simp -implicitDefEqProofs [hw0, c14, hw1, g21, hw2, hjn, hqn] <;> rfl) (by simp -implicitDefEqProofs [hw0, c14, hw1, g21, hw2, hjn, hqn] <;> rfl) call_34 (hcc (h' j) (h' q) (hok' j hjn) (hok' q hqn)) (by rfl) (by simp -implicitDefEqProofs [hw0, c14, hw1, g21, hw2, hjn, hqn] <;> rfl) ?_
        refine DrO.run (fz := []) 2 (by simp -implicitDefEqProofs [hw0, c14, hw1, g21, hw2, hjn, hqn] <;> first | exact ⟨rfl, rfl, rfl, rfl⟩ | rfl) ?_
        refine DrO.nil ⟨by kernel_rfl, ?_⟩
        refine ⟨rfl, Gh.only 34 17 ?_ (by first | rfl | simp -implicitDefEqProofs [hw0, c14, hw1, g21, hw2, hjn, hqn]) (by rfl)⟩
        simp -implicitDefEqProofs [hw0, c14, hw1, g21, hw2, hjn, hqn, g21']
      · have g21' := g21; first | simp only [dT, dF] at g21' | try simp at g21'
        refine DrO.run (fz := []) 3 (by simp -implicitDefEqProofs [hw0, c14, hw1, g21] <;> first | exact ⟨rfl, rfl, rfl, rfl⟩ | rfl) ?_
        refine DrO.run (fz := []) 3 (by simp -implicitDefEqProofs [hw0, c14, hw1, g21] <;> first | exact ⟨rfl, rfl, rfl, rfl⟩ | rfl) ?_
        refine DrO.run (fz := []) 3 (by simp -implicitDefEqProofs [hw0, c14, hw1, g21] <;> first | exact ⟨rfl, rfl, rfl, rfl⟩ | rfl) ?_
        refine DrO.run (fz := []) 3 (by simp -implicitDefEqProofs [hw0, c14, hw1, g21] <;> first | exact ⟨rfl, rfl, rfl, rfl⟩ | rfl) ?_
        refine DrO.run (fz := []) 1 (by simp -implicitDefEqProofs [hw0, c14, hw1, g21] <;> first | exact ⟨rfl, rfl, rfl, rfl⟩ | rfl) ?_
        refine DrO.nil ⟨by kernel_rfl, ?_⟩
        refine ⟨rfl, Gh.only 34 17 ?_ (by first | rfl | simp -implicitDefEqProofs [hw0, c14, hw1, g21]) (by rfl)⟩
        simp -implicitDefEqProofs [hw0, c14, hw1, g21, g21']
    refine WpC.condD (a < j ∧ c (h' j) (h' q) < 0) (by simp -implicitDefEqProofs [hw0, c14, hw1]) (fun d34 => ?_) (fun d34 => ?_)
    · have hw2 : IntKind.i64.wrap ((j : Int) - 1) = (q : Int) := by rw [wrapI (by omega) (by omega)]; omega
      refine WpC.skip ?_
      refine WpC.seq ?_
      refine WpC.block ?_
      refine WpC.drawn tabOk (by kernel_rfl) 0 (by simp) ?_
      refine DrO.run (fz := []) 3 (by simp -implicitDefEqProofs [hw0, c14, hw1, d34, hw2, hjn, hqn] <;> first | exact ⟨rfl, rfl, rfl, rfl⟩ | rfl) ?_
      refine DrO.run (fz := []) 3 (by simp -implicitDefEqProofs [hw0, c14, hw1, d34, hw2, hjn, hqn] <;> first | exact ⟨rfl, rfl, rfl, rfl⟩ | rfl) ?_
      refine DrO.run (fz := []) 3 (by simp -implicitDefEqProofs [hw0, c14, hw1, d34, hw2, hjn, hqn] <;> first | exact ⟨rfl, rfl, rfl, rfl⟩ | rfl) ?_
      refine DrO.run (fz := []) 3 (by simp -implicitDefEqProofs [hw0, c14, hw1, d34, hw2, hjn, hqn] <;> first | exact ⟨rfl, rfl, rfl, rfl⟩ | rfl) ?_
      refine DrO.run (fz := []) 3 (by simp -implicitDefEqProofs [hw0, c14, hw1, d34, hw2, hjn, hqn] <;> first | exact ⟨rfl, rfl, rfl, rfl⟩ | rfl) ?_
      refine DrO.run (fz := []) 3 (by simp -implicitDefEqProofs [hw0, c14, hw1, d34, hw2, hjn, hqn] <;> first | exact ⟨rfl, rfl, rfl, rfl⟩ | rfl) ?_
      refine DrO.nil ⟨by kernel_rfl, ?_⟩
      refine WpC.ops tabOk (r := []) (by simp -implicitDefEqProofs [hw0, c14, hw1, d34, hw2, hjn, hqn] <;> rfl) rfl ?_
      exact ⟨(q, sw h' j q), ⟨by simp; omega, by simp; omega, h5'.trans (Mv.sw _ (by omega) (by omega) (by omega) (by omega)), ins_step hcm hq hok' hjn h6' d34.1 h4' d34.2⟩, by simp; omega, Gh.cut' [9, 0, 1, 2, 3, 8] 1 (by simp -implicitDefEqProofs [hw0, c14, hw1, d34, hw2, hjn, hqn, c14', sw]) (by simp -implicitDefEqProofs [hw0, c14, hw1, d34, hw2, hjn, hqn, c14', sw]) rfl (by simp) (by simp) (by simp)⟩
    · have hsr := ins_end hcm hq hok' (by omega) h6' h4' d34
      refine WpC.exit ?_
      refine WpC.ops tabOk (r := []) (by simp -implicitDefEqProofs [hw0, c14, hw1, d34] <;> rfl) rfl ?_
      exact ⟨(i + 1, h'), ⟨by simp; omega, by simp; omega, h5', hsr⟩, by simp; omega, Gh.cut' [8, 0, 1, 2, 3] 1 (by simp -implicitDefEqProofs [hw0, c14, hw1, d34, c14']) (by simp -implicitDefEqProofs [hw0, c14, hw1, d34, c14']) rfl (by simp) (by simp) (by simp)⟩
  · have c14' := c14; first | simp only [dT, dF] at c14' | try simp at c14'
    refine WpC.exit ?_
    refine ⟨.inl rfl, [], rfl, ?_, by simp⟩
    exact ⟨h, rfl, rfl, h5, fun p r p1 p2 p3 => h6 p r p1 p2 (by simp at c14; omega)⟩
end
end Go.Proofs.Ytaobnhenjldjeaa.Pay
/- slices' symMerge: what is plain. No statement of the seed is proved here. -/
namespace Go.Proofs.Ytaobnhenjldjeaa.Pay
open Go Go.RowKit
set_option linter.unusedVariables false
set_option linter.unusedSimpArgs false

section
variable {c : Int → Int → Int} {ok : Int → Prop}
theorem Cmp.lel (h : Cmp c ok) {x y z : Int} (hx : ok x) (hy : ok y) (hz : ok z) (h1 : ¬ c y x < 0) (h2 : c y z < 0) : c x z < 0 := by
  by_cases e : x = y
  · subst e; exact h2
  · exact h.tr x y z hx hy hz ((h.tot x y hx hy e).resolve_right h1) h2
theorem Cmp.ltl (h : Cmp c ok) {x y z : Int} (hx : ok x) (hy : ok y) (hz : ok z) (h1 : c x y < 0) (h2 : ¬ c z y < 0) : c x z < 0 := by
  by_cases e : y = z
  · subst e; exact h1
  · exact h.tr x y z hx hy hz h1 ((h.tot y z hy hz e).resolve_right h2)
theorem Cmp.irr (h : Cmp c ok) {x : Int} (hx : ok x) : ¬ c x x < 0 := fun q => h.asym x x hx hx q q
theorem Srtd.le (hc : Cmp c ok) {g : Nat → Int} {a b n : Nat} (hs : Srtd c g a b) (hok : AllOk ok g n) (hb : b ≤ n) {i j : Nat} (hi : a ≤ i) (hij : i ≤ j) (hj : j < b) : ¬ c (g j) (g i) < 0 := by
  by_cases e : i = j
  · subst e; exact hc.irr (hok i (by omega))
  · exact hs i j hi (by omega) hj
theorem Srtd.eq {g h : Nat → Int} {a b : Nat} (hs : Srtd c g a b) (e : ∀ i, a ≤ i → i < b → h i = g i) : Srtd c h a b := fun i j h1 h2 h3 => by
  rw [e i h1 (by omega), e j (by omega) h3]; exact hs i j h1 h2 h3

/-! ### One number is put into a sorted row behind it -/
def shl (g : Nat → Int) (a k : Nat) : Nat → Int := fun p => if a ≤ p ∧ p < k then g (p + 1) else if p = k then g a else g p
theorem shl_zero (g : Nat → Int) (a : Nat) : shl g a a = g := by
  funext p
  unfold shl
  rw [if_neg (by omega)]
  split
  · rename_i h; rw [h]
  · rfl
theorem shl_step (g : Nat → Int) {a k : Nat} (h : a ≤ k) : sw (shl g a k) k (k + 1) = shl g a (k + 1) := by
  funext p
  rw [sw_at]
  unfold shl
  by_cases e1 : p = k + 1
  · subst e1
    rw [if_pos rfl, if_neg (by omega), if_pos rfl, if_neg (by omega), if_pos rfl]
  · rw [if_neg e1]
    by_cases e2 : p = k
    · subst e2
      rw [if_pos rfl, if_neg (by omega), if_neg (by omega), if_pos (by omega)]
    · rw [if_neg e2]
      by_cases e3 : a ≤ p ∧ p < k
      · rw [if_pos e3, if_pos (by omega)]
      · rw [if_neg e3, if_neg e2, if_neg (by omega), if_neg e1]
theorem shl_mv (g : Nat → Int) {a k b : Nat} (h : a ≤ k) (hb : k < b) : Mv a b g (shl g a k) :=
  Mv.of (fun p => if a ≤ p ∧ p < k then p + 1 else if p = k then a else p) (fun p => by
    unfold shl
    split
    · rfl
    · split <;> rfl) (fun p hp => by rw [if_neg (by omega), if_neg (by omega)]) (fun p p1 p2 => by split <;> (try split) <;> omega) (fun p q p1 p2 q1 q2 e => by
    split at e <;> split at e <;> (try split at e) <;> (try split at e) <;> omega)
theorem shl_srt (hc : Cmp c ok) {g : Nat → Int} {n a i b : Nat} (hok : AllOk ok g n) (hbn : b ≤ n) (hi : a + 1 ≤ i) (hib : i ≤ b) (hs : Srtd c g (a + 1) b) (h1 : ∀ k, a + 1 ≤ k → k < i → c (g k) (g a) < 0) (h2 : ∀ k, i ≤ k → k < b → ¬ c (g k) (g a) < 0) :
    Srtd c (shl g a (i - 1)) a b := fun p q p1 pq q2 => by
  unfold shl
  by_cases e1 : p < i - 1
  · rw [if_pos (c := a ≤ p ∧ p < i - 1) (by omega)]
    by_cases e2 : q < i - 1
    · rw [if_pos (by omega)]
      exact hs (p + 1) (q + 1) (by omega) (by omega) (by omega)
    · rw [if_neg (by omega)]
      by_cases e3 : q = i - 1
      · rw [if_pos e3]
        exact hc.asym _ _ (hok _ (by omega)) (hok _ (by omega)) (h1 (p + 1) (by omega) (by omega))
      · rw [if_neg e3]
        exact hs (p + 1) q (by omega) (by omega) q2
  · rw [if_neg (c := a ≤ p ∧ p < i - 1) (by omega), if_neg (c := a ≤ q ∧ q < i - 1) (by omega), if_neg (c := q = i - 1) (by omega)]
    by_cases e3 : p = i - 1
    · rw [if_pos e3]
      exact h2 q (by omega) q2
    · rw [if_neg e3]
      exact hs p q (by omega) pq q2
/-! ### .. ahead of it -/
def shrf (g : Nat → Int) (k m : Nat) : Nat → Int := fun p => if p = k then g m else if k < p ∧ p ≤ m then g (p - 1) else g p
theorem shrf_zero (g : Nat → Int) (m : Nat) : shrf g m m = g := by
  funext p
  unfold shrf
  split
  · rename_i h; rw [h]
  · rw [if_neg (by omega)]
theorem shrf_step (g : Nat → Int) {k q m : Nat} (hq : k - 1 = q) (h : 0 < k) (hk : k ≤ m) : sw (shrf g k m) k q = shrf g q m := by
  funext p
  rw [sw_at]
  unfold shrf
  by_cases e1 : p = q
  · rw [if_pos e1, if_pos e1, if_pos rfl]
  · rw [if_neg e1, if_neg e1]
    by_cases e2 : p = k
    · subst e2
      rw [if_pos rfl, if_neg (by omega), if_neg (by omega), if_pos (by omega), hq]
    · rw [if_neg e2, if_neg e2]
      by_cases e3 : k < p ∧ p ≤ m
      · rw [if_pos e3, if_pos (by omega)]
      · rw [if_neg e3, if_neg (by omega)]
theorem shrf_mv (g : Nat → Int) {a k m b : Nat} (h : a ≤ k) (hk : k ≤ m) (hb : m < b) : Mv a b g (shrf g k m) :=
  Mv.of (fun p => if p = k then m else if k < p ∧ p ≤ m then p - 1 else p) (fun p => by
    unfold shrf
    split
    · rfl
    · split <;> rfl) (fun p hp => by rw [if_neg (by omega), if_neg (by omega)]) (fun p p1 p2 => by split <;> (try split) <;> omega) (fun p q p1 p2 q1 q2 e => by
    split at e <;> split at e <;> (try split at e) <;> (try split at e) <;> omega)
theorem shrf_srt (hc : Cmp c ok) {g : Nat → Int} {n a i m : Nat} (hok : AllOk ok g n) (hbn : m < n) (hi : a ≤ i) (him : i ≤ m) (hs : Srtd c g a m) (h1 : ∀ k, a ≤ k → k < i → ¬ c (g m) (g k) < 0) (h2 : ∀ k, i ≤ k → k < m → c (g m) (g k) < 0) :
    Srtd c (shrf g i m) a (m + 1) := fun p q p1 pq q2 => by
  unfold shrf
  by_cases e1 : q = i
  · rw [if_pos e1, if_neg (by omega), if_neg (by omega)]
    exact h1 p p1 (by omega)
  · rw [if_neg e1]
    by_cases e2 : i < q ∧ q ≤ m
    · rw [if_pos e2]
      by_cases e3 : p = i
      · rw [if_pos e3]
        exact hc.asym _ _ (hok _ (by omega)) (hok _ (by omega)) (h2 (q - 1) (by omega) (by omega))
      · rw [if_neg e3]
        by_cases e4 : i < p ∧ p ≤ m
        · rw [if_pos e4]
          exact hs (p - 1) (q - 1) (by omega) (by omega) (by omega)
        · rw [if_neg e4]
          exact hs p (q - 1) p1 (by omega) (by omega)
    · rw [if_neg e2, if_neg (by omega), if_neg (by omega)]
      exact hs p q p1 pq (by omega)

/-! ### The search by both -/
structure Sy (c : Int → Int → Int) (g : Nat → Int) (p s0 r0 s r : Nat) : Prop where
  lo : ∀ k, s0 ≤ k → k < s → ¬ c (g (p - k)) (g k) < 0
  hi : ∀ k, r ≤ k → k < r0 → c (g (p - k)) (g k) < 0
  o1 : s0 ≤ s
  o2 : s ≤ r
  o3 : r ≤ r0
/-- The places looked at. -/
structure Pl (a m b p s0 r0 : Nat) : Prop where
  i1 : a ≤ s0
  i2 : r0 ≤ m
  i3 : s0 ≤ r0
  j1 : m + r0 ≤ p + 1
  j2 : p < s0 + b
theorem Sy.up (hc : Cmp c ok) {g : Nat → Int} {n a m b p s0 r0 s r k : Nat} (hok : AllOk ok g n) (hbn : b ≤ n) (h1 : Srtd c g a m) (h2 : Srtd c g m b) (hp : Pl a m b p s0 r0) (h : Sy c g p s0 r0 s r) (hsk : s ≤ k) (hkr : k < r) (hk : ¬ c (g (p - k)) (g k) < 0) : Sy c g p s0 r0 (k + 1) r := by
  obtain ⟨i1, i2, i3, j1, j2⟩ := hp
  obtain ⟨lo, hi, o1, o2, o3⟩ := h
  refine ⟨fun q q1 q2 => ?_, hi, by omega, by omega, o3⟩
  have e1 := h1.le hc hok (by have := h2; omega) (i := q) (j := k) (by omega) (by omega) (by omega)
  have e2 := h2.le hc hok hbn (i := p - k) (j := p - q) (by omega) (by omega) (by omega)
  exact hc.le (hok q (by omega)) (hok (p - k) (by omega)) (hok (p - q) (by omega)) (hc.le (hok q (by omega)) (hok k (by omega)) (hok (p - k) (by omega)) e1 hk) e2
theorem Sy.down (hc : Cmp c ok) {g : Nat → Int} {n a m b p s0 r0 s r k : Nat} (hok : AllOk ok g n) (hbn : b ≤ n) (h1 : Srtd c g a m) (h2 : Srtd c g m b) (hp : Pl a m b p s0 r0) (h : Sy c g p s0 r0 s r) (hsk : s ≤ k) (hkr : k < r) (hk : c (g (p - k)) (g k) < 0) : Sy c g p s0 r0 s k := by
  obtain ⟨i1, i2, i3, j1, j2⟩ := hp
  obtain ⟨lo, hi, o1, o2, o3⟩ := h
  refine ⟨lo, fun q q1 q2 => ?_, o1, hsk, by omega⟩
  have e1 := h1.le hc hok (by omega) (i := k) (j := q) (by omega) (by omega) (by omega)
  have e2 := h2.le hc hok hbn (i := p - q) (j := p - k) (by omega) (by omega) (by omega)
  exact hc.ltl (hok (p - q) (by omega)) (hok k (by omega)) (hok q (by omega)) (hc.lel (hok (p - q) (by omega)) (hok (p - k) (by omega)) (hok k (by omega)) e2 hk) e1

/-- What is so behind the rotation. -/
structure Af (c : Int → Int → Int) (h : Nat → Int) (a s mid e b : Nat) : Prop where
  s1 : Srtd c h a s
  s2 : Srtd c h s mid
  s3 : Srtd c h mid e
  s4 : Srtd c h e b
  x : ∀ i j, a ≤ i → i < mid → mid ≤ j → j < b → ¬ c (h j) (h i) < 0
theorem rot_none (g : Nat → Int) {s m e : Nat} (h : ¬ (s < m ∧ m < e)) (h1 : s ≤ m) (h2 : m ≤ e) : rot g s m e = g := by
  funext k
  unfold rot
  by_cases e1 : s ≤ k ∧ k < s + (e - m)
  · rw [if_pos e1]; congr 1; omega
  · rw [if_neg e1]
    by_cases e2 : s + (e - m) ≤ k ∧ k < e
    · rw [if_pos e2]; congr 1; omega
    · rw [if_neg e2]
theorem after (hc : Cmp c ok) {g : Nat → Int} {n a m b mid s0 r0 s e : Nat} (hok : AllOk ok g n) (hbn : b ≤ n) (h1 : Srtd c g a m) (h2 : Srtd c g m b) (hmid : (a + b) / 2 = mid) (ham : a < m) (hmb : m < b)
    (hsr : (mid < m ∧ s0 + b = mid + m ∧ r0 = mid) ∨ (m ≤ mid ∧ s0 = a ∧ r0 = m)) (h : Sy c g (mid + m - 1) s0 r0 s s) (he : e + s = mid + m) : Af c (rot g s m e) a s mid e b := by
  obtain ⟨lo, hi, o1, o2, o3⟩ := h
  have hsm : s ≤ m := by omega
  have hme : m ≤ e := by omega
  have heb : e ≤ b := by omega
  have hsmid : s ≤ mid := by omega
  have hmide : mid ≤ e := by omega
  have hasn : a ≤ s := by omega
  have r1 : ∀ i, i < s → rot g s m e i = g i := fun i hi => rot_3 (by omega) (by omega)
  have r2 : ∀ i, s ≤ i → i < mid → rot g s m e i = g (m + (i - s)) := fun i h1 h2 => rot_1 (by omega) rfl
  have r3 : ∀ i, mid ≤ i → i < e → rot g s m e i = g (i - (e - m)) := fun i h1 h2 => rot_2 (by omega) (by omega) rfl
  have r4 : ∀ i, e ≤ i → rot g s m e i = g i := fun i h1 => rot_3 (by omega) (by omega)
  -- what stands first against what stands last
  have x1 : ∀ i j, a ≤ i → i < s → e ≤ j → j < b → ¬ c (g j) (g i) < 0 := fun i j i1 i2 j1 j2 => by
    have q1 := h1.le hc hok (by omega) (i := i) (j := s - 1) i1 (by omega) (by omega)
    have q2 := lo (s - 1) (by omega) (by omega)
    rw [show mid + m - 1 - (s - 1) = e from by omega] at q2
    have q3 := h2.le hc hok hbn (i := e) (j := j) hme j1 j2
    exact hc.le (hok i (by omega)) (hok e (by omega)) (hok j (by omega)) (hc.le (hok i (by omega)) (hok (s - 1) (by omega)) (hok e (by omega)) q1 q2) q3
  have x2 : ∀ i j, m ≤ i → i < e → s ≤ j → j < m → ¬ c (g j) (g i) < 0 := fun i j i1 i2 j1 j2 => by
    have q1 := h2.le hc hok hbn (i := i) (j := e - 1) i1 (by omega) (by omega)
    have q2 := hi s (Nat.le_refl _) (by omega)
    rw [show mid + m - 1 - s = e - 1 from by omega] at q2
    have q3 := h1.le hc hok (by omega) (i := s) (j := j) hasn j1 j2
    have q4 := hc.asym _ _ (hok (e - 1) (by omega)) (hok s (by omega)) q2
    exact hc.le (hok i (by omega)) (hok s (by omega)) (hok j (by omega)) (hc.le (hok i (by omega)) (hok (e - 1) (by omega)) (hok s (by omega)) q1 q4) q3
  refine ⟨fun i j i1 ij j2 => ?_, fun i j i1 ij j2 => ?_, fun i j i1 ij j2 => ?_, fun i j i1 ij j2 => ?_, fun i j i1 i2 j1 j2 => ?_⟩
  · rw [r1 i (by omega), r1 j j2]; exact h1 i j i1 ij (by omega)
  · rw [r2 i i1 (by omega), r2 j (by omega) j2]; exact h2 _ _ (by omega) (by omega) (by omega)
  · rw [r3 i i1 (by omega), r3 j (by omega) j2]; exact h1 _ _ (by omega) (by omega) (by omega)
  · rw [r4 i i1, r4 j (by omega)]; exact h2 i j (by omega) ij j2
  · by_cases e1 : i < s
    · rw [r1 i e1]
      by_cases e2 : j < e
      · rw [r3 j j1 e2]; exact h1 _ _ i1 (by omega) (by omega)
      · rw [r4 j (by omega)]; exact x1 i j i1 e1 (by omega) j2
    · rw [r2 i (by omega) i2]
      by_cases e2 : j < e
      · rw [r3 j j1 e2]; exact x2 _ _ (by omega) (by omega) (by omega) (by omega)
      · rw [r4 j (by omega)]; exact h2 _ _ (by omega) (by omega) j2
theorem sym_end {a mid b s e : Nat} {h1 h2 h3 : Nat → Int} (hx : Af c h1 a s mid e b) (m1 : Mv a mid h1 h2) (s1 : Srtd c h2 a mid) (m2 : Mv mid b h2 h3) (s2 : Srtd c h3 mid b) : Srtd c h3 a b := fun i j i1 ij j2 => by
  by_cases e1 : j < mid
  · rw [m2.out i (by omega), m2.out j (by omega)]; exact s1 i j i1 ij e1
  · by_cases e2 : i < mid
    · obtain ⟨j', j1', j2', ej⟩ := m2.src j (by omega) j2
      obtain ⟨i', i1', i2', ei⟩ := m1.src i i1 e2
      rw [ej, m1.out j' (by omega), m2.out i (by omega), ei]
      exact hx.x i' j' i1' i2' j1' j2'
    · exact s2 i j (by omega) ij j2
end
end Go.Proofs.Ytaobnhenjldjeaa.Pay
