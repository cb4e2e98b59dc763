/- Whole numbers as floats of 64 bits: sums, differences and comparisons are exact up to 2^53. No statement of the seed is proved here. -/
import GoSem.Core.Float
namespace Go.Proofs.Ytndofikacmhejaa.Pay
open Go Ieee

theorem cut_exact (neg : Bool) (t drop : Nat) (n : Nat) (h : n = t * 2 ^ drop) (hd : drop ≤ n.log2 + 2) : Toward.even.cut neg n drop = t := by
  subst h
  unfold Toward.cut
  have hg : (1 <<< min drop ((t * 2 ^ drop).log2 + 2)) = 2 ^ drop := by
    rw [Nat.min_eq_left hd, Nat.shiftLeft_eq, Nat.one_mul]
  have h0 : 0 < 2 ^ drop := Nat.two_pow_pos _
  simp only [hg]
  rw [Nat.mul_div_cancel _ h0, Nat.mul_mod_left]
  have h1 : (decide (2 ^ drop < 2 * 0) || (2 ^ drop == 2 * 0 && t % 2 == 1)) = false := by
    rw [Nat.mul_zero, decide_eq_false (by omega)]
    have : ((2 ^ drop == 0) : Bool) = false := by rw [beq_eq_false_iff_ne]; omega
    rw [this]; rfl
  simp only [h1]
  rfl

theorem log2_shift {x k : Nat} (h : x ≠ 0) : (x * 2 ^ k).log2 = x.log2 + k := by
  have h2 : 0 < 2 ^ k := Nat.two_pow_pos _
  have hx : x * 2 ^ k ≠ 0 := Nat.mul_ne_zero h (by omega)
  rw [Nat.log2_eq_iff hx]
  obtain ⟨h3, h4⟩ := (Nat.log2_eq_iff h).1 rfl
  constructor
  · rw [Nat.pow_add]; exact Nat.mul_le_mul_right _ h3
  · rw [show x.log2 + k + 1 = (x.log2 + 1) + k by omega, Nat.pow_add]
    exact Nat.mul_lt_mul_of_pos_right h4 h2

theorem pow2 {a b c d : Nat} (h : a + b = c + d) : (2 : Nat) ^ a * 2 ^ b = 2 ^ c * 2 ^ d := by rw [← Nat.pow_add, ← Nat.pow_add, h]

/-- The significand of a number. -/
theorem sig (E : Nat) {n : Nat} (h1 : 1 ≤ n) (h2 : n ≤ 9007199254740992) : ∃ t, t * 2 ^ (n.log2 + E) = n * 2 ^ (E + 52) ∧ 2 ^ 52 ≤ t ∧ t < 2 ^ 53 ∧ n.log2 ≤ 53 := by
  obtain ⟨h3, h4⟩ := (Nat.log2_eq_iff (n := n) (by omega)).1 rfl
  by_cases he : n = 9007199254740992
  · subst he
    have : (9007199254740992 : Nat).log2 = 53 := by decide +kernel
    rw [this]
    refine ⟨2 ^ 52, ?_, by omega, by omega, by omega⟩
    have e : (2 : Nat) ^ 53 = 9007199254740992 := rfl
    exact (pow2 (a := 52) (b := 53 + E) (c := 53) (d := E + 52) (by omega)).trans (congrArg (· * 2 ^ (E + 52)) e)
  · have hl : n.log2 ≤ 52 := by
      apply Nat.le_of_lt_succ
      rw [Nat.log2_lt (by omega)]
      omega
    refine ⟨n * 2 ^ (52 - n.log2), ?_, ?_, ?_, by omega⟩
    · rw [Nat.mul_assoc, ← Nat.pow_add, show 52 - n.log2 + (n.log2 + E) = E + 52 by omega]
    · have := Nat.mul_le_mul_right (2 ^ (52 - n.log2)) h3
      rw [← Nat.pow_add, show n.log2 + (52 - n.log2) = 52 by omega] at this
      exact this
    · have := Nat.mul_lt_mul_of_pos_right h4 (Nat.two_pow_pos (52 - n.log2))
      rw [← Nat.pow_add, show n.log2 + 1 + (52 - n.log2) = 53 by omega] at this
      exact this

theorem nearest_val {E : Nat} (hE : E = 1022) (neg : Bool) {m n q : Nat} (h : m * 2 ^ q = n * 2 ^ (E + 52)) (h1 : 1 ≤ n) (h2 : n ≤ 9007199254740992) :
    ∃ t, t * 2 ^ (n.log2 + E) = n * 2 ^ (E + 52) ∧ 2 ^ 52 ≤ t ∧ t < 2 ^ 53 ∧ n.log2 ≤ 53 ∧ double.nearest neg m ((q : Int) - 1074) = double.word neg ((n.log2 + E) * 2 ^ 52 + t) := by
  obtain ⟨t, ht, hlo, hhi, hl⟩ := sig E h1 h2
  refine ⟨t, ht, hlo, hhi, hl, ?_⟩
  have hm : m ≠ 0 := by
    rintro rfl
    rw [Nat.zero_mul] at h
    exact absurd h.symm (Nat.ne_of_gt (Nat.mul_pos (show 0 < n from h1) (Nat.two_pow_pos _)))
  have hlog : m.log2 + q = n.log2 + (E + 52) := by
    rw [← log2_shift hm, h, log2_shift (by omega)]
  have hmin : ∀ x, x < 1077 * 2 ^ 52 → min x double.infRung = x := by
    intro x hx
    have : double.infRung = 2047 * 2 ^ 52 := by decide
    rw [this]
    exact Nat.min_eq_left (by omega)
  unfold Format.nearest
  rw [if_neg hm]
  have hlast : max ((q : Int) - 1074 + m.log2 - double.fractionBits) double.leastPlace = (n.log2 : Int) - 52 := by
    have e1 : (double.fractionBits : Int) = 52 := rfl
    have e2 : double.leastPlace = -1074 := by decide
    rw [e1, e2]
    omega
  simp only [hlast]
  have e3 : ((n.log2 : Int) - 52 - double.leastPlace).toNat = n.log2 + E := by
    have e2 : double.leastPlace = -1074 := by decide
    rw [e2]; omega
  have e4 : double.binade = 2 ^ 52 := by decide
  rw [e3, e4]
  have hcut : Toward.even.cut neg (m <<< ((q : Int) - 1074 - ((n.log2 : Int) - 52)).toNat) ((n.log2 : Int) - 52 - ((q : Int) - 1074)).toNat = t := by
    have e5 : ((q : Int) - 1074 - ((n.log2 : Int) - 52)).toNat = q - (n.log2 + E) := by omega
    have e6 : ((n.log2 : Int) - 52 - ((q : Int) - 1074)).toNat = n.log2 + E - q := by omega
    rw [e5, e6, Nat.shiftLeft_eq]
    by_cases hc : n.log2 + E ≤ q
    · refine cut_exact _ _ _ _ ?_ (by omega)
      rw [show n.log2 + E - q = 0 by omega, Nat.pow_zero, Nat.mul_one]
      refine Nat.eq_of_mul_eq_mul_right (Nat.two_pow_pos (n.log2 + E)) ?_
      rw [ht, ← h, Nat.mul_assoc, ← Nat.pow_add, show q - (n.log2 + E) + (n.log2 + E) = q by omega]
    · refine cut_exact _ _ _ _ ?_ ?_
      · rw [show q - (n.log2 + E) = 0 by omega, Nat.pow_zero, Nat.mul_one]
        refine Nat.eq_of_mul_eq_mul_right (Nat.two_pow_pos q) ?_
        rw [h, ← ht, Nat.mul_assoc, ← Nat.pow_add, show n.log2 + E - q + q = n.log2 + E by omega]
      · rw [show q - (n.log2 + E) = 0 by omega, Nat.pow_zero, Nat.mul_one]
        omega
  rw [hcut, hmin _ (by omega)]

theorem nearest_same {E : Nat} (hE : E = 1022) (neg : Bool) {m n q : Nat} (h : m * 2 ^ q = n * 2 ^ (E + 52)) (h1 : 1 ≤ n) (h2 : n ≤ 9007199254740992) : double.nearest neg m ((q : Int) - 1074) = double.nearest neg n 0 := by
  obtain ⟨t, ht, _, _, _, e⟩ := nearest_val hE neg h h1 h2
  obtain ⟨t', ht', _, _, _, e'⟩ := nearest_val hE neg (m := n) (n := n) (q := E + 52) rfl h1 h2
  have : t = t' := Nat.eq_of_mul_eq_mul_right (Nat.two_pow_pos (n.log2 + E)) (by rw [ht, ht'])
  subst this
  rw [e]
  have h0 : (((E + 52 : Nat) : Int) - 1074) = 0 := by omega
  rw [h0] at e'
  exact e'.symm

theorem read_nearest {E : Nat} (hE : E = 1022) (neg : Bool) {n : Nat} (h1 : 1 ≤ n) (h2 : n ≤ 9007199254740992) : ∃ t, double.read (double.nearest neg n 0) = .number neg t (((n.log2 + E : Nat) : Int) - 1074) ∧ t * 2 ^ (n.log2 + E) = n * 2 ^ (E + 52) := by
  obtain ⟨t, ht, hlo, hhi, hl, e⟩ := nearest_val hE neg (m := n) (n := n) (q := E + 52) rfl h1 h2
  have h0 : (((E + 52 : Nat) : Int) - 1074) = 0 := by omega
  rw [h0] at e
  refine ⟨t, ?_, ht⟩
  rw [e]
  have e1 : double.signWeight = 2 ^ 63 := by decide
  have e2 : double.binade = 2 ^ 52 := by decide
  have e3 : double.infRung = 2047 * 2 ^ 52 := by decide
  have e4 : double.leastPlace = -1074 := by decide
  have hr : (n.log2 + E) * 2 ^ 52 + t < 2 ^ 63 := by omega
  unfold Format.read Format.word
  rw [e1, e2, e3, e4]
  have hw : (if neg = true then 2 ^ 63 + ((n.log2 + E) * 2 ^ 52 + t) else (n.log2 + E) * 2 ^ 52 + t) % 2 ^ 63 = (n.log2 + E) * 2 ^ 52 + t := by
    cases neg <;> simp only [if_true, Bool.false_eq_true, if_false] <;> omega
  have hs : ((if neg = true then 2 ^ 63 + ((n.log2 + E) * 2 ^ 52 + t) else (n.log2 + E) * 2 ^ 52 + t) / 2 ^ 63 % 2 == 1) = neg := by
    cases neg <;> simp only [if_true, Bool.false_eq_true, if_false]
    · rw [Nat.div_eq_of_lt hr]; rfl
    · rw [show (2 ^ 63 + ((n.log2 + E) * 2 ^ 52 + t)) / 2 ^ 63 = 1 by omega]; rfl
  simp only [hw, hs]
  rw [if_neg (by omega), if_pos (by omega)]
  have h3 : 2 ^ 52 + ((n.log2 + E) * 2 ^ 52 + t) % 2 ^ 52 = t := by omega
  have h4 : ((n.log2 + E) * 2 ^ 52 + t) / 2 ^ 52 - 1 = n.log2 + E := by omega
  rw [h3, h4]
  congr 1

/-- A datum that is a whole number. -/
def IsV (E : Nat) (d : Datum) (n : Int) (s : Bool) : Prop := ∃ (m q : Nat), d = .number s m ((q : Int) - 1074) ∧ signed s m q = n * 2 ^ (E + 52)

def fN (n : Int) : Nat := FloatKind.f64.nearest n
theorem fN_eq (n : Int) : fN n = double.nearest (decide (n < 0)) n.natAbs 0 := rfl
theorem fN_zero : fN 0 = 0 := by decide

def Small (n : Int) : Prop := -9007199254740992 ≤ n ∧ n ≤ 9007199254740992

theorem signed_neg (s : Bool) (m q : Nat) : signed s m q = (if s = true then -1 else 1) * ((m * 2 ^ q : Nat) : Int) := by
  unfold signed
  rw [Nat.shiftLeft_eq]
  cases s <;> simp

theorem isV_fN {E : Nat} (hE : E = 1022) {n : Int} (h : Small n) : IsV E (double.read (fN n)) n (decide (n < 0)) := by
  unfold Small at h
  by_cases h0 : n = 0
  · subst h0
    rw [fN_zero]
    exact ⟨0, 0, by decide, by rw [Int.zero_mul]; rfl⟩
  · obtain ⟨t, e, ht⟩ := read_nearest hE (decide (n < 0)) (n := n.natAbs) (by omega) (by omega)
    rw [fN_eq, e]
    refine ⟨t, _, rfl, ?_⟩
    rw [signed_neg, ht]
    by_cases hn : n < 0
    · simp only [hn, decide_true, if_true]
      rw [Int.natCast_mul]
      rw [show ((n.natAbs : Nat) : Int) = -n by omega]
      simp only [Int.natCast_pow]
      simp [Int.neg_mul]
    · simp only [hn, decide_false, Bool.false_eq_true, if_false]
      rw [Int.natCast_mul]
      rw [show ((n.natAbs : Nat) : Int) = n by omega]
      simp only [Int.natCast_pow]
      simp

theorem signed_shift (s : Bool) (m a b : Nat) (h : b ≤ a) : signed s m (a - b) * 2 ^ b = signed s m a := by
  rw [signed_neg, signed_neg, Int.mul_assoc]
  congr 1
  have : ((m * 2 ^ (a - b) : Nat) : Int) * 2 ^ b = ((m * 2 ^ (a - b) * 2 ^ b : Nat) : Int) := by
    rw [Int.natCast_mul (m * 2 ^ (a - b)) (2 ^ b), Int.natCast_pow]; rfl
  rw [this, Nat.mul_assoc, ← Nat.pow_add, show a - b + b = a by omega]

theorem sum_isV {E : Nat} (hE : E = 1022) {x y : Datum} {a b : Int} {s t : Bool} (hx : IsV E x a s) (hy : IsV E y b t) (hs : Small (a + b)) (hz : a + b = 0 → (s && t) = false) : (x.sum y).map double.write = some (fN (a + b)) := by
  obtain ⟨m, i, rfl, h1⟩ := hx
  obtain ⟨n, j, rfl, h2⟩ := hy
  unfold Small at hs
  simp only [Datum.sum, Option.map_some, Option.some.injEq, Format.write]
  have hb : min ((i : Int) - 1074) ((j : Int) - 1074) = ((min i j : Nat) : Int) - 1074 := by omega
  rw [hb]
  have e1 : ((i : Int) - 1074 - (((min i j : Nat) : Int) - 1074)).toNat = i - min i j := by omega
  have e2 : ((j : Int) - 1074 - (((min i j : Nat) : Int) - 1074)).toNat = j - min i j := by omega
  rw [e1, e2]
  generalize hT : signed s m (i - min i j) + signed t n (j - min i j) = T
  have hv : T * 2 ^ (min i j) = (a + b) * 2 ^ (E + 52) := by
    rw [← hT, Int.add_mul, Int.add_mul, signed_shift _ _ _ _ (by omega), signed_shift _ _ _ _ (by omega), h1, h2]
  have hp : (0 : Int) < 2 ^ (min i j) := Int.pow_pos (by omega)
  have hq : (0 : Int) < 2 ^ (E + 52) := Int.pow_pos (by omega)
  by_cases h0 : a + b = 0
  · rw [h0] at hv ⊢
    have hT0 : T = 0 := by
      rw [Int.zero_mul] at hv
      rcases Int.mul_eq_zero.1 hv with h | h
      · exact h
      · omega
    subst hT0
    rw [if_pos rfl, hz h0, fN_zero]
    simp [Format.nearest, Format.word]
  · have hTn : T ≠ 0 := by
      rintro rfl
      rw [Int.zero_mul] at hv
      rcases Int.mul_eq_zero.1 hv.symm with h | h
      · exact h0 h
      · omega
    rw [if_neg hTn, fN_eq]
    have hsg : (T < 0) ↔ (a + b < 0) := by
      constructor
      · intro h
        have : T * 2 ^ (min i j) < 0 := Int.mul_neg_of_neg_of_pos h hp
        rw [hv] at this
        by_cases hh : a + b < 0
        · exact hh
        · have := Int.mul_nonneg (show 0 ≤ a + b by omega) (Int.le_of_lt hq); omega
      · intro h
        have : (a + b) * 2 ^ (E + 52) < 0 := Int.mul_neg_of_neg_of_pos h hq
        rw [← hv] at this
        by_cases hh : T < 0
        · exact hh
        · have := Int.mul_nonneg (show 0 ≤ T by omega) (Int.le_of_lt hp); omega
    have hd : decide (T < 0) = decide (a + b < 0) := by simp only [hsg]
    rw [hd]
    refine nearest_same hE _ ?_ (by omega) (by omega)
    have := congrArg Int.natAbs hv
    have h2 : (2 : Int).natAbs = 2 := rfl
    rw [Int.natAbs_mul, Int.natAbs_mul, Int.natAbs_pow, Int.natAbs_pow, h2] at this
    exact this

theorem f64_add {a b : Int} (ha : Small a) (hb : Small b) (hs : Small (a + b)) : FloatKind.f64.format.add (fN a) (fN b) = some (fN (a + b)) := by
  obtain ⟨E, hE⟩ : ∃ E, E = 1022 := ⟨_, rfl⟩
  refine sum_isV hE (isV_fN hE ha) (isV_fN hE hb) hs fun h => ?_
  by_cases h1 : a < 0
  · rw [decide_eq_false (p := b < 0) (by omega), Bool.and_false]
  · rw [decide_eq_false h1, Bool.false_and]

theorem f64_sub {a b : Int} (ha : Small a) (hb : Small b) (hs : Small (a - b)) : FloatKind.f64.format.sub (fN a) (fN b) = some (fN (a - b)) := by
  obtain ⟨E, hE⟩ : ∃ E, E = 1022 := ⟨_, rfl⟩
  obtain ⟨m, i, e, h⟩ := isV_fN hE hb
  have hy : IsV E (double.read (fN b)).opposite (-b) (!decide (b < 0)) := by
    rw [e]
    refine ⟨m, i, rfl, ?_⟩
    rw [signed_neg] at h ⊢
    rw [Int.neg_mul, ← h]
    cases decide (b < 0) <;> simp [Int.neg_mul]
  have := sum_isV hE (isV_fN hE ha) hy (by rwa [← Int.sub_eq_add_neg]) (fun h => by
    by_cases h1 : a < 0
    · rw [decide_eq_true (p := b < 0) (by omega)]; simp
    · rw [decide_eq_false h1, Bool.false_and])
  rw [Int.sub_eq_add_neg]
  exact this

theorem f64_eq {a b : Int} (ha : Small a) (hb : Small b) : (FloatKind.f64.format.order (fN a) (fN b) == some .eq) = decide (a = b) := by
  obtain ⟨E, hE⟩ : ∃ E, E = 1022 := ⟨_, rfl⟩
  obtain ⟨m, i, e1, h1⟩ := isV_fN hE ha
  obtain ⟨n, j, e2, h2⟩ := isV_fN hE hb
  show (Datum.order (double.read (fN a)) (double.read (fN b)) == some .eq) = _
  rw [e1, e2]
  simp only [Datum.order]
  have hb : min ((i : Int) - 1074) ((j : Int) - 1074) = ((min i j : Nat) : Int) - 1074 := by omega
  rw [hb]
  have e1 : ((i : Int) - 1074 - (((min i j : Nat) : Int) - 1074)).toNat = i - min i j := by omega
  have e2 : ((j : Int) - 1074 - (((min i j : Nat) : Int) - 1074)).toNat = j - min i j := by omega
  rw [e1, e2]
  have hv1 := signed_shift (decide (a < 0)) m i (min i j) (by omega)
  have hv2 := signed_shift (decide (b < 0)) n j (min i j) (by omega)
  rw [h1] at hv1
  rw [h2] at hv2
  generalize signed (decide (a < 0)) m (i - min i j) = x at *
  generalize signed (decide (b < 0)) n (j - min i j) = y at *
  have hp : (2 : Int) ^ (min i j) ≠ 0 := Int.ne_of_gt (Int.pow_pos (by omega))
  have hq : (2 : Int) ^ (E + 52) ≠ 0 := Int.ne_of_gt (Int.pow_pos (by omega))
  have hiff : x = y ↔ a = b := by
    constructor
    · rintro rfl
      exact Int.eq_of_mul_eq_mul_right hq (hv1.symm.trans hv2)
    · rintro rfl
      exact Int.eq_of_mul_eq_mul_right hp (hv1.trans hv2.symm)
  by_cases hab : a = b
  · have := hiff.2 hab
    subst this
    simp [hab]
  · have hxy : x ≠ y := fun h => hab (hiff.1 h)
    have : compare x y ≠ .eq := fun h => hxy (Int.compare_eq_eq.1 h)
    simp [hab, this]
end Go.Proofs.Ytndofikacmhejaa.Pay
