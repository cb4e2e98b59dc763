/- Numbers of decimal digits: Mul and less walked. No statement of the seed is proved here. -/
import Derived.Test.YtfbpcjkhgiickaaBgB
namespace Go.Proofs.Ytfbpcjkhgiickaa.Pay
open Go Go.RowKit
set_option linter.unusedVariables false
set_option linter.unusedSimpArgs false
set_option linter.unusedSectionVars false

theorem rowF_snoc (f : Nat → Int) (k : Nat) : rowF f (k + 1) = rowF f k ++ [dI (f k)] := by simp [rowF, List.range_succ]
theorem row_trim {g : Nat → Int} {n x : Nat} (h : ∀ i, i < n → 0 ≤ g i ∧ g i ≤ 9) (hv : valF g n = x) : (rowF g n).take (trimN g n) = (dgs x).map dI := by
  have hle := trimN_le g n
  rw [← trim_dgs h hv, ← rowF_listF]
  apply List.ext_getElem?
  intro i
  by_cases hi : i < trimN g n
  · rw [List.getElem?_take_of_lt hi, rowF_get hi, rowF_get (by omega)]
  · rw [List.getElem?_eq_none (by simp; omega), List.getElem?_eq_none (by simp; omega)]
/-- Less, digit by digit. -/
def brw (a b : Nat → Int) : Nat → Int
  | 0 => 0
  | n + 1 => if a n - brw a b n - b n < 0 then 1 else 0
def ddg (a b : Nat → Int) (n : Nat) : Int := a n - brw a b n - b n
def odg (a b : Nat → Int) (n : Nat) : Int := if ddg a b n < 0 then ddg a b n + 10 else ddg a b n
theorem brw_b (a b : Nat → Int) : ∀ n, 0 ≤ brw a b n ∧ brw a b n ≤ 1
  | 0 => by simp [brw]
  | n + 1 => by unfold brw; split <;> omega
theorem odg_b {a b : Nat → Int} (ha : ∀ i, 0 ≤ a i ∧ a i ≤ 9) (hb : ∀ i, 0 ≤ b i ∧ b i ≤ 9) (n : Nat) : 0 ≤ odg a b n ∧ odg a b n ≤ 9 := by
  have h1 := ha n
  have h2 := hb n
  have h3 := brw_b a b n
  unfold odg ddg
  split <;> omega
theorem odg_val (a b : Nat → Int) : ∀ n, valF (odg a b) n = valF a n - valF b n + brw a b n * 10 ^ n
  | 0 => by simp [valF, brw]
  | n + 1 => by
    rw [valF_succ, valF_succ, valF_succ, odg_val a b n, Int.pow_succ]
    obtain ⟨M, hM⟩ : ∃ M : Int, (10 : Int) ^ n = M := ⟨_, rfl⟩
    rw [hM]
    have e : brw a b (n + 1) = if ddg a b n < 0 then 1 else 0 := rfl
    have e2 : ddg a b n * M = a n * M - brw a b n * M - b n * M := by unfold ddg; rw [Int.sub_mul, Int.sub_mul]
    rw [e]
    unfold odg
    split
    · rw [Int.add_mul, e2]; omega
    · rw [e2]; omega
theorem odg_all {x y : Nat} (h : y ≤ x) : valF (odg (atL (dgs x)) (atL (dgs y))) (dgs x).length = ((x - y : Nat) : Int) := by
  have h1 := odg_val (atL (dgs x)) (atL (dgs y)) (dgs x).length
  have hlen : (dgs y).length ≤ (dgs x).length := dgs_len_le (Nat.lt_of_le_of_lt h dgs_lt)
  have hy : valF (atL (dgs y)) (dgs x).length = y := by
    have : ∀ k, valF (atL (dgs y)) ((dgs y).length + k) = y := fun k => by
      induction k with
      | zero => exact valF_dgs y
      | succ k ih =>
        rw [← Nat.add_assoc, valF_succ, ih]
        have : atL (dgs y) ((dgs y).length + k) = 0 := by unfold atL; rw [List.getElem?_eq_none (by omega)]; rfl
        rw [this]; simp
    have := this ((dgs x).length - (dgs y).length)
    rwa [show (dgs y).length + ((dgs x).length - (dgs y).length) = (dgs x).length by omega] at this
  have h2 := cmp_val (fun i => odg_b (atL_dgs x) (atL_dgs y) i) (atL_dgs x) (dgs x).length
  have h3 := brw_b (atL (dgs x)) (atL (dgs y)) (dgs x).length
  rw [valF_dgs, hy] at h1
  rcases Int.lt_or_le 0 (brw (atL (dgs x)) (atL (dgs y)) (dgs x).length) with h4 | h4
  · have e : brw (atL (dgs x)) (atL (dgs y)) (dgs x).length = 1 := by omega
    rw [e] at h1
    omega
  · have e : brw (atL (dgs x)) (atL (dgs y)) (dgs x).length = 0 := by omega
    rw [e] at h1
    omega
theorem lessB_ok (x y : Nat) (h : y ≤ x) (hx : (dgs x).length ≤ 1000000) : Gives Try.prog 41 [.d (.list 1 ((dgs x).map dI)), .d (.list 1 ((dgs y).map dI))] (.d (.list 1 ((dgs (x - y)).map dI))) := by
  have hrt := row_trim (fun i _ => odg_b (atL_dgs x) (atL_dgs y) i) (odg_all h)
  obtain ⟨a, ha⟩ : ∃ a, dgs x = a := ⟨_, rfl⟩
  obtain ⟨b, hb⟩ : ∃ b, dgs y = b := ⟨_, rfl⟩
  have b1 := atL_dgs x
  have b2 := atL_dgs y
  have hlen : b.length ≤ a.length := by rw [← ha, ← hb]; exact dgs_len_le (Nat.lt_of_le_of_lt h dgs_lt)
  rw [ha] at hrt b1 hx ⊢
  rw [hb] at hrt b2 ⊢
  have hto := trim_ok (odg (atL a) (atL b)) a.length hx
  obtain ⟨n, hn⟩ : ∃ n, a.length = n := ⟨_, rfl⟩
  rw [hn] at hto hrt
  have hle := trimN_le (odg (atL a) (atL b)) n
  obtain ⟨m, hm⟩ : ∃ m, trimN (odg (atL a) (atL b)) n = m := ⟨_, rfl⟩
  rw [hm] at hto hrt hle
  have z1 : brw (atL a) (atL b) 0 = 0 := rfl
  have z2 : rowF (odg (atL a) (atL b)) 0 = [] := rfl
  refine Gives.enter tabOk Try.func41 rfl (by show 2 ≤ 41; decide) ?_
  simp only [Try.f41]
  refine WpC.seq (WpC.ops tabOk (r := []) (by simp -implicitDefEqProofs [hn, z1, z2, hle] <;> rfl) rfl ?_)
  refine WpC.seq (WpC.ops tabOk (r := []) (by simp -implicitDefEqProofs [hn, z1, z2, hle] <;> rfl) rfl ?_)
  refine WpC.gh (Gh.nilArr 3 1 (t := 5) (by simp) (by simp)) ?_
  refine WpC.seq (WpC.ops tabOk (r := []) (by simp -implicitDefEqProofs [hn, z1, z2, hle] <;> rfl) rfl ?_)
  refine WpC.seq ?_
  refine WpC.seq (WpC.ops tabOk (r := []) (by simp -implicitDefEqProofs [hn, z1, z2, hle] <;> rfl) rfl ?_)
  refine WpC.block ?_
  refine WpC.loopK [0, 1] [5, 6, 7] (n) (() : Unit) (fun k _ => [(5, .sl 0 k), (6, .d (dI (brw (atL a) (atL b) k))), (7, .d (.int .i64 k))]) (fun k _ => [.arr 3 1 (rowF (odg (atL a) (atL b)) k)]) (fun k _ => True) (by simp -implicitDefEqProofs [hn, z1, z2, hle] <;> rfl) (Gh.cut' [5, 6, 7, 0, 1] 1 (by simp -implicitDefEqProofs [hn, z1, z2, hle]) (by simp -implicitDefEqProofs [hn, z1, z2, hle]) rfl (by simp) (by simp) (by simp)) (by simp) ?_
  rintro k ⟨⟩ hk hi
  simp only [List.cons_append, List.nil_append]
  refine WpC.seq ?_
  refine WpC.seq (WpC.ops tabOk (r := []) (by simp -implicitDefEqProofs [hn, z1, z2, hle] <;> rfl) rfl ?_)
  refine WpC.condD (k < n) (by simp -implicitDefEqProofs [hn, z1, z2, hle] <;> omega) (fun hlt => ?_) (fun hge => ?_)
  · refine WpC.skip ?_
    have hkl : k < a.length := by omega
    obtain ⟨u, hu⟩ : ∃ u, a[k] = u := ⟨_, rfl⟩
    have hua : u = atL a k := by rw [← hu, atL_at hkl]
    have hbb := brw_b (atL a) (atL b) k
    have u1 := b1 k
    have u2 := b2 k
    have hst := rowF_snoc (odg (atL a) (atL b)) k
    have hbs : brw (atL a) (atL b) (k + 1) = if ddg (atL a) (atL b) k < 0 then 1 else 0 := rfl
    have hdd : ddg (atL a) (atL b) k = u - brw (atL a) (atL b) k - atL b k := by rw [hua]; rfl
    have hod : odg (atL a) (atL b) k = if ddg (atL a) (atL b) k < 0 then ddg (atL a) (atL b) k + 10 else ddg (atL a) (atL b) k := rfl
    rw [hod] at hst
    obtain ⟨c, hc⟩ : ∃ c, brw (atL a) (atL b) k = c := ⟨_, rfl⟩
    obtain ⟨dd, hd2⟩ : ∃ c, ddg (atL a) (atL b) k = c := ⟨_, rfl⟩
    rw [hc] at hbb hdd
    rw [hd2] at hdd hbs hst
    have hw1 : IntKind.i64.wrap (u - c) = u - c := wrapI (by omega) (by omega)
    have hks : k ≤ 8589934591 := by omega
    have hkw : IntKind.i64.wrap ((k : Int) + 1) = k + 1 := wrapI (by omega) (by omega)
    have hk10 : IntKind.i64.wrap (dd + 10) = dd + 10 := wrapI (by omega) (by omega)
    refine WpC.seq ?_
    refine WpC.block ?_
    refine WpC.seq (WpC.ops tabOk (r := []) (by simp -implicitDefEqProofs [hn, z1, z2, hle, hlt, hkl, hu, hc, hw1, hks, hkw, hk10] <;> rfl) rfl ?_)
    refine WpC.seq ?_
    refine WpC.seq (WpC.ops tabOk (r := []) (by simp -implicitDefEqProofs [hn, z1, z2, hle, hlt, hkl, hu, hc, hw1, hks, hkw, hk10] <;> rfl) rfl ?_)
    refine WpC.join ⟨[(0, .d (.list 1 (a.map dI))), (1, .d (.list 1 (b.map dI))), (5, .sl 0 k), (7, .d (dI k)), (8, .d (dI dd))], [.arr 3 1 (rowF (odg (atL a) (atL b)) k)], 41, 0⟩ ?_ ?_
    · refine WpC.condD ((k : Int) < b.length) (by simp -implicitDefEqProofs [hn, z1, z2, hle, hlt, hkl, hu, hc, hw1, hks, hkw, hk10]) (fun d24 => ?_) (fun d24 => ?_)
      · have hkb : k < b.length := by omega
        obtain ⟨v, hv⟩ : ∃ v, b[k] = v := ⟨_, rfl⟩
        have hvb : atL b k = v := by rw [← hv, atL_at hkb]
        have hw2 : IntKind.i64.wrap (u - c - v) = dd := by rw [wrapI (by omega) (by omega)]; omega
        refine WpC.ops tabOk (r := []) (by simp -implicitDefEqProofs [hn, z1, z2, hle, hlt, hkl, hu, hc, hw1, hks, hkw, hk10, d24, hkb, hv, hw2] <;> rfl) rfl ?_
        exact ⟨rfl, Gh.cut' [0, 1, 5, 7, 8] 1 (by simp -implicitDefEqProofs [hn, z1, z2, hle, hlt, hkl, hu, hc, hw1, hks, hkw, hk10, d24, hkb, hv, hw2]) (by simp -implicitDefEqProofs [hn, z1, z2, hle, hlt, hkl, hu, hc, hw1, hks, hkw, hk10, d24, hkb, hv, hw2]) rfl (by simp) (by simp) (by simp)⟩
      · have hvb : atL b k = 0 := by unfold atL; rw [List.getElem?_eq_none (by omega)]; rfl
        have hw2 : u - c = dd := by omega
        refine WpC.skip ?_
        exact ⟨rfl, Gh.cut' [0, 1, 5, 7, 8] 1 (by simp -implicitDefEqProofs [hn, z1, z2, hle, hlt, hkl, hu, hc, hw1, hks, hkw, hk10, d24, hw2]) (by simp -implicitDefEqProofs [hn, z1, z2, hle, hlt, hkl, hu, hc, hw1, hks, hkw, hk10, d24, hw2]) rfl (by simp) (by simp) (by simp)⟩
    · refine WpC.seq (WpC.ops tabOk (r := []) (by simp -implicitDefEqProofs [hn, z1, z2, hle, hlt, hkl, hu, hc, hw1, hks, hkw, hk10] <;> rfl) rfl ?_)
      refine WpC.seq ?_
      refine WpC.seq (WpC.ops tabOk (r := []) (by simp -implicitDefEqProofs [hn, z1, z2, hle, hlt, hkl, hu, hc, hw1, hks, hkw, hk10] <;> rfl) rfl ?_)
      refine WpC.condD (dd < 0) (by simp -implicitDefEqProofs [hn, z1, z2, hle, hlt, hkl, hu, hc, hw1, hks, hkw, hk10]) (fun d32 => ?_) (fun d32 => ?_)
      · refine WpC.seq (WpC.ops tabOk (r := []) (by simp -implicitDefEqProofs [hn, z1, z2, hle, hlt, hkl, hu, hc, hw1, hks, hkw, hk10, d32] <;> rfl) rfl ?_)
        refine WpC.ops tabOk (r := []) (by simp -implicitDefEqProofs [hn, z1, z2, hle, hlt, hkl, hu, hc, hw1, hks, hkw, hk10, d32] <;> rfl) rfl ?_
        refine WpC.ops tabOk (r := []) (by simp -implicitDefEqProofs [hn, z1, z2, hle, hlt, hkl, hu, hc, hw1, hks, hkw, hk10, d32] <;> rfl) rfl ?_
        refine WpC.ops tabOk (r := []) (by simp -implicitDefEqProofs [hn, z1, z2, hle, hlt, hkl, hu, hc, hw1, hks, hkw, hk10, d32] <;> rfl) rfl ?_
        exact ⟨hlt, (), trivial, Gh.pick [5, 6, 7, 0, 1] [2] (by simp -implicitDefEqProofs [hn, z1, z2, hle, hlt, hkl, hu, hc, hw1, hks, hkw, hk10, d32, hst, hbs]; rfl) (by simp -implicitDefEqProofs [hn, z1, z2, hle, hlt, hkl, hu, hc, hw1, hks, hkw, hk10, d32, hst, hbs]) (by simp) (by simp) (by simp; rfl) (by simp -implicitDefEqProofs [hn, z1, z2, hle, hlt, hkl, hu, hc, hw1, hks, hkw, hk10, d32, hst, hbs]) (by simp)⟩
      · refine WpC.skip ?_
        refine WpC.ops tabOk (r := []) (by simp -implicitDefEqProofs [hn, z1, z2, hle, hlt, hkl, hu, hc, hw1, hks, hkw, hk10, d32] <;> rfl) rfl ?_
        refine WpC.ops tabOk (r := []) (by simp -implicitDefEqProofs [hn, z1, z2, hle, hlt, hkl, hu, hc, hw1, hks, hkw, hk10, d32] <;> rfl) rfl ?_
        exact ⟨hlt, (), trivial, Gh.pick [5, 6, 7, 0, 1] [2] (by simp -implicitDefEqProofs [hn, z1, z2, hle, hlt, hkl, hu, hc, hw1, hks, hkw, hk10, d32, hst, hbs]; rfl) (by simp -implicitDefEqProofs [hn, z1, z2, hle, hlt, hkl, hu, hc, hw1, hks, hkw, hk10, d32, hst, hbs]) (by simp) (by simp) (by simp; rfl) (by simp -implicitDefEqProofs [hn, z1, z2, hle, hlt, hkl, hu, hc, hw1, hks, hkw, hk10, d32, hst, hbs]) (by simp)⟩
  · refine WpC.exit ?_
    have hkn : n = k := by omega
    subst hkn
    refine WpC.seq ?_
    refine WpC.region ?_
    refine WpO.run tabOk 1 (by simp -implicitDefEqProofs [hn, z1, z2, hle] <;> first | exact ⟨rfl, rfl⟩ | rfl) ?_
    refine WpO.callP [0] (by simp) rfl (by simp -implicitDefEqProofs [hn, z1, z2, hle] <;> rfl) (by simp -implicitDefEqProofs [hn, z1, z2, hle] <;> rfl) call_39 (by simp) (by simp) (by simp) (by simp -implicitDefEqProofs [hn, z1, z2, hle]) (by simp; rfl) (by simp -implicitDefEqProofs [hn, z1, z2, hle]) ( hto) fun r S1 hr => ?_
    obtain ⟨rfl, rfl⟩ := hr
    refine ⟨_, by simp -implicitDefEqProofs [hn, z1, z2, hle] <;> rfl, ?_⟩
    refine WpO.run tabOk 1 (by simp -implicitDefEqProofs [hn, z1, z2, hle] <;> first | exact ⟨rfl, rfl⟩ | rfl) ?_
    refine WpO.nil ?_
    refine WpC.ret ?_
    try simp only [blockQ, seqQ]
    refine retD_i (by simp -implicitDefEqProofs [hn, z1, z2, hle] <;> rfl) (by simp -implicitDefEqProofs [hn, z1, z2, hle] <;> rfl) ?_
    simp [hrt]
theorem rep_row (n : Nat) : List.replicate n (D.int .i64 0) = rowF (fun _ => 0) n := by
  apply List.ext_getElem?
  intro i
  by_cases hi : i < n
  · rw [rowF_get hi, List.getElem?_replicate, if_pos hi]
  · rw [List.getElem?_eq_none (by simp; omega), List.getElem?_eq_none (by simp; omega)]
theorem valF_none : ∀ n, valF (fun _ => 0) n = 0
  | 0 => rfl
  | n + 1 => by rw [valF_succ, valF_none n]; simp
theorem upd_get (g : Nat → Int) (i : Nat) (x : Int) (j : Nat) : upd g i x j = if j = i then x else g j := rfl
/-- While a product is added up: la, lb digits, i rows are done, of the next one k. -/
structure MuI (a b : Nat → Int) (lb n i k : Nat) (g : Nat → Int) : Prop where
  lo : ∀ j, 0 ≤ g j ∧ g j ≤ 81 * i + 81
  hi : ∀ j, i + k ≤ j → g j ≤ 81 * i
  val : valF g n = valF a i * valF b lb + a i * 10 ^ i * valF b k
theorem MuI.zero (a b : Nat → Int) (lb n : Nat) : MuI a b lb n 0 0 (fun _ => 0) := ⟨fun j => by omega, fun j _ => by omega, by rw [valF_none]; simp [valF]⟩
theorem MuI.step {a b : Nat → Int} {lb n i k : Nat} {g : Nat → Int} (ha : ∀ i, 0 ≤ a i ∧ a i ≤ 9) (hb : ∀ i, 0 ≤ b i ∧ b i ≤ 9) (h : MuI a b lb n i k g) (hn : i + k < n) : MuI a b lb n i (k + 1) (upd g (i + k) (g (i + k) + a i * b k)) := by
  have h1 : 0 ≤ a i * b k := Int.mul_nonneg (ha i).1 (hb k).1
  have h2 : a i * b k ≤ 9 * 9 := Int.mul_le_mul (ha i).2 (hb k).2 (hb k).1 (by decide)
  have h3 := h.lo (i + k)
  have h4 := h.hi (i + k) (Nat.le_refl _)
  refine ⟨fun j => ?_, fun j hj => ?_, ?_⟩
  · rw [upd_get]
    split
    · omega
    · exact h.lo j
  · rw [upd_get, if_neg (by omega)]; exact h.hi j (by omega)
  · rw [valF_upd _ _ hn, h.val, valF_succ, Int.mul_add, Int.pow_add]
    have e : g (i + k) + a i * b k - g (i + k) = a i * b k := by omega
    rw [e, Int.add_assoc]
    congr 2
    rw [Int.mul_assoc, Int.mul_assoc, Int.mul_left_comm (b k), Int.mul_comm (b k)]
theorem MuI.next {a b : Nat → Int} {lb n i : Nat} {g : Nat → Int} (h : MuI a b lb n i lb g) : MuI a b lb n (i + 1) 0 g := by
  refine ⟨fun j => by have := h.lo j; omega, fun j _ => by have := h.lo j; omega, ?_⟩
  rw [h.val, valF_succ, Int.add_mul]
  simp [valF]
/-- While what is above 9 is carried. -/
structure CaI (X : Int) (B : Int) (n i : Nat) (g : Nat → Int) : Prop where
  dn : ∀ j, j < i → 0 ≤ g j ∧ g j ≤ 9
  at_ : 0 ≤ g i ∧ g i ≤ 2 * B
  up : ∀ j, i < j → 0 ≤ g j ∧ g j ≤ B
  val : valF g n = X
theorem CaI.step {X B : Int} {n i : Nat} {g : Nat → Int} (h : CaI X B n i g) (hn : i + 1 < n) : CaI X B n (i + 1) (upd (upd g (i + 1) (g (i + 1) + g i / 10)) i (g i % 10)) := by
  have h1 := h.at_
  have h2 := h.up (i + 1) (by omega)
  refine ⟨fun j hj => ?_, ?_, fun j hj => ?_, ?_⟩
  · rw [upd_get]
    split
    · omega
    · rw [upd_get, if_neg (by omega)]; exact h.dn j (by omega)
  · rw [upd_get, if_neg (by omega), upd_get, if_pos rfl]; omega
  · rw [upd_get, if_neg (by omega), upd_get, if_neg (by omega)]; exact h.up j (by omega)
  · rw [carry_val g hn h1.1, h.val]
theorem CaI.end {X B : Int} {n : Nat} {g : Nat → Int} (h : CaI X B (n + 1) n g) (hX : X < 10 ^ n) : ∀ i, i < n + 1 → 0 ≤ g i ∧ g i ≤ 9 := fun i hi => by
  by_cases e : i = n
  · subst e
    have := last_zero (fun j hj => (h.dn j hj).1) h.at_.1 h.val hX
    omega
  · exact h.dn i (by omega)
def signB (m1 m2 : Bool) (x : Nat) : Bool := m1 != m2 && decide (0 < x)
theorem mul_lt (x y : Nat) : ((x * y : Nat) : Int) < 10 ^ ((dgs x).length + (dgs y).length) := by
  have h1 := @dgs_lt x
  have h2 := @dgs_lt y
  have : x * y < 10 ^ ((dgs x).length + (dgs y).length) := by
    rw [Nat.pow_add]
    exact Nat.mul_lt_mul'' h1 h2
  exact_mod_cast this
set_option maxHeartbeats 4000000 in
theorem mulB_okB (m1 m2 : Bool) (x y : Nat) (hx : (dgs x).length ≤ 1000) (hy : (dgs y).length ≤ 1000) : Gives Try.prog 37 [.d (encB m1 x), .d (encB m2 y)] (.d (encB (signB m1 m2 (x * y)) (x * y))) := by
  have hva := valF_dgs x
  have hvb := valF_dgs y
  have hlt := mul_lt x y
  have hdg : (dgs (x * y)).length = 0 ↔ x * y = 0 := dgs_nil
  have b1 := atL_dgs x
  have b2 := atL_dgs y
  unfold encB
  obtain ⟨X, hX⟩ : ∃ X, x * y = X := ⟨_, rfl⟩
  have hXv : (X : Int) = x * y := by rw [← hX]; simp
  rw [hX] at hlt hdg ⊢
  obtain ⟨a, ha⟩ : ∃ a, dgs x = a := ⟨_, rfl⟩
  obtain ⟨b, hb⟩ : ∃ b, dgs y = b := ⟨_, rfl⟩
  rw [ha] at hva b1 hx hlt ⊢
  rw [hb] at hvb b2 hy hlt ⊢
  obtain ⟨la, hla⟩ : ∃ n, a.length = n := ⟨_, rfl⟩
  obtain ⟨lb, hlb⟩ : ∃ n, b.length = n := ⟨_, rfl⟩
  rw [hla] at hva hx hlt
  rw [hlb] at hvb hy hlt
  obtain ⟨n, hn⟩ : ∃ n, la + lb = n := ⟨_, rfl⟩
  rw [hn] at hlt
  obtain ⟨N, hN⟩ : ∃ N, n + 1 = N := ⟨_, rfl⟩
  have hw0 : IntKind.i64.wrap ((la : Int) + lb) = n := by rw [wrapI (by omega) (by omega)]; omega
  have hw1 : IntKind.i64.wrap ((n : Int) + 1) = N := by rw [wrapI (by omega) (by omega)]; omega
  have hnn : (N : Int) ≤ 8589934592 := by omega
  have hnn2 : N ≤ 8589934592 := by omega
  have hN2 : N ≤ 10000 := by omega
  have hrep := rep_row N
  refine Gives.enter tabOk Try.func37 rfl (by show 2 ≤ 92; decide) ?_
  simp only [Try.f37]
  refine WpC.seq (WpC.ops tabOk (r := []) (by simp -implicitDefEqProofs [hla, hlb, hw0, hw1, hnn, hnn2, hrep] <;> rfl) rfl ?_)
  refine WpC.seq (WpC.ops tabOk (r := []) (by simp -implicitDefEqProofs [hla, hlb, hw0, hw1, hnn, hnn2, hrep] <;> rfl) rfl ?_)
  refine WpC.seq ?_
  refine WpC.seq (WpC.ops tabOk (r := []) (by simp -implicitDefEqProofs [hla, hlb, hw0, hw1, hnn, hnn2, hrep] <;> rfl) rfl ?_)
  refine WpC.block ?_
  refine WpC.loopK [2, 3, 4, 5] [6] (la) (fun _ => 0 : Nat → Int) (fun k h => [(6, .d (.int .i64 k))]) (fun k h => [.cells 65 [.d (.bool m1), .d (.list 1 (a.map dI))], .cells 65 [.d (.bool m2), .d (.list 1 (b.map dI))], .cells 65 [.d (.bool false), .d .nil], .arr 3 1 (rowF h N)]) (fun k h => MuI (atL a) (atL b) lb N k 0 h) (by simp -implicitDefEqProofs [hla, hlb, hw0, hw1, hnn, hnn2, hrep] <;> rfl) (Gh.cut' [6, 2, 3, 4, 5] 4 (by simp -implicitDefEqProofs [hla, hlb, hw0, hw1, hnn, hnn2, hrep]) (by simp -implicitDefEqProofs [hla, hlb, hw0, hw1, hnn, hnn2, hrep]) rfl (by simp) (by simp) (by simp)) (MuI.zero _ _ _ _) ?_
  rintro k h hk hi
  simp only [List.cons_append, List.nil_append]
  refine WpC.seq ?_
  refine WpC.seq (WpC.ops tabOk (r := []) (by simp -implicitDefEqProofs [hla, hlb, hw0, hw1, hnn, hnn2, hrep] <;> rfl) rfl ?_)
  refine WpC.condD (k < la) (by simp -implicitDefEqProofs [hla, hlb, hw0, hw1, hnn, hnn2, hrep] <;> omega) (fun hlt => ?_) (fun hge => ?_)
  · refine WpC.skip ?_
    have hi0 := hi
    obtain ⟨i, rfl⟩ : ∃ i, i = k := ⟨k, rfl⟩
    have hil : i < la := hlt
    have hia : i < a.length := by omega
    obtain ⟨u, hu⟩ : ∃ u, a[i] = u := ⟨_, rfl⟩
    have hua : atL a i = u := by rw [← hu, atL_at hia]
    have hub := b1 i
    have hkw : IntKind.i64.wrap ((i : Int) + 1) = i + 1 := wrapI (by omega) (by omega)
    rw [hua] at hub
    refine WpC.seq ?_
    refine WpC.block ?_
    refine WpC.seq (WpC.ops tabOk (r := []) (by simp -implicitDefEqProofs [hla, hlb, hw0, hw1, hnn, hnn2, hrep, hlt, hil, hia, hu, hkw] <;> rfl) rfl ?_)
    refine WpC.block ?_
    refine WpC.loopK [2, 3, 4, 5, 6] [7] (lb) (h : Nat → Int) (fun k hh => [(7, .d (.int .i64 k))]) (fun k hh => [.cells 65 [.d (.bool m1), .d (.list 1 (a.map dI))], .cells 65 [.d (.bool m2), .d (.list 1 (b.map dI))], .cells 65 [.d (.bool false), .d .nil], .arr 3 1 (rowF hh N)]) (fun k hh => MuI (atL a) (atL b) lb N i k hh) (by simp -implicitDefEqProofs [hla, hlb, hw0, hw1, hnn, hnn2, hrep, hlt, hil, hia, hu, hkw] <;> rfl) (Gh.cut' [7, 2, 3, 4, 5, 6] 4 (by simp -implicitDefEqProofs [hla, hlb, hw0, hw1, hnn, hnn2, hrep, hlt, hil, hia, hu, hkw]) (by simp -implicitDefEqProofs [hla, hlb, hw0, hw1, hnn, hnn2, hrep, hlt, hil, hia, hu, hkw]) rfl (by simp) (by simp) (by simp)) (hi0) ?_
    rintro k hh hk hi
    simp only [List.cons_append, List.nil_append]
    have hi1 := hi
    refine WpC.seq ?_
    refine WpC.seq (WpC.ops tabOk (r := []) (by simp -implicitDefEqProofs [hla, hlb, hw0, hw1, hnn, hnn2, hrep, hlt, hil, hia, hu, hkw] <;> rfl) rfl ?_)
    refine WpC.condD (k < lb) (by simp -implicitDefEqProofs [hla, hlb, hw0, hw1, hnn, hnn2, hrep, hlt, hil, hia, hu, hkw] <;> omega) (fun hlt => ?_) (fun hge => ?_)
    · refine WpC.skip ?_
      have hkb : k < b.length := by omega
      obtain ⟨v, hv⟩ : ∃ v, b[k] = v := ⟨_, rfl⟩
      have hvb : atL b k = v := by rw [← hv, atL_at hkb]
      have hvB := b2 k
      have hst := hi1.step b1 b2 (show i + k < N by omega)
      obtain ⟨q, hq⟩ : ∃ q, i + k = q := ⟨_, rfl⟩
      have hg := hi1.lo q
      rw [hvb] at hvB
      rw [hua, hvb, hq] at hst
      obtain ⟨G, hG⟩ : ∃ G, hh q = G := ⟨_, rfl⟩
      rw [hG] at hst hg
      have p1 : 0 ≤ u * v := Int.mul_nonneg hub.1 hvB.1
      have p2 : u * v ≤ 9 * 9 := Int.mul_le_mul hub.2 hvB.2 hvB.1 (by decide)
      obtain ⟨uv, huv⟩ : ∃ z, u * v = z := ⟨_, rfl⟩
      rw [huv] at hst p1 p2
      have hqN : q < N := by omega
      have w1 : IntKind.i64.wrap ((i : Int) + k) = q := by rw [wrapI (by omega) (by omega)]; omega
      have w2 : IntKind.i64.wrap uv = uv := wrapI (by omega) (by omega)
      have w3 : IntKind.i64.wrap (G + uv) = G + uv := wrapI (by omega) (by omega)
      have hkw2 : IntKind.i64.wrap ((k : Int) + 1) = k + 1 := wrapI (by omega) (by omega)
      refine WpC.seq ?_
      refine WpC.block ?_
      refine WpC.drawn tabOk (by kernel_rfl) 0 (by simp) ?_
      refine DrO.run (fz := []) 3 (by simp -implicitDefEqProofs [hla, hlb, hw0, hw1, hnn, hnn2, hrep, hlt, hil, hia, hu, hkw, hlt, hkb, hv, hqN, w1, w2, w3, hkw2, huv, hG] <;> first | exact ⟨rfl, rfl, rfl, rfl⟩ | rfl) ?_
      refine DrO.run (fz := []) 3 (by simp -implicitDefEqProofs [hla, hlb, hw0, hw1, hnn, hnn2, hrep, hlt, hil, hia, hu, hkw, hlt, hkb, hv, hqN, w1, w2, w3, hkw2, huv, hG] <;> first | exact ⟨rfl, rfl, rfl, rfl⟩ | rfl) ?_
      refine DrO.run (fz := []) 3 (by simp -implicitDefEqProofs [hla, hlb, hw0, hw1, hnn, hnn2, hrep, hlt, hil, hia, hu, hkw, hlt, hkb, hv, hqN, w1, w2, w3, hkw2, huv, hG] <;> first | exact ⟨rfl, rfl, rfl, rfl⟩ | rfl) ?_
      refine DrO.run (fz := []) 3 (by simp -implicitDefEqProofs [hla, hlb, hw0, hw1, hnn, hnn2, hrep, hlt, hil, hia, hu, hkw, hlt, hkb, hv, hqN, w1, w2, w3, hkw2, huv, hG] <;> first | exact ⟨rfl, rfl, rfl, rfl⟩ | rfl) ?_
      refine DrO.run (fz := []) 3 (by simp -implicitDefEqProofs [hla, hlb, hw0, hw1, hnn, hnn2, hrep, hlt, hil, hia, hu, hkw, hlt, hkb, hv, hqN, w1, w2, w3, hkw2, huv, hG] <;> first | exact ⟨rfl, rfl, rfl, rfl⟩ | rfl) ?_
      refine DrO.run (fz := []) 3 (by simp -implicitDefEqProofs [hla, hlb, hw0, hw1, hnn, hnn2, hrep, hlt, hil, hia, hu, hkw, hlt, hkb, hv, hqN, w1, w2, w3, hkw2, huv, hG] <;> first | exact ⟨rfl, rfl, rfl, rfl⟩ | rfl) ?_
      refine DrO.run (fz := []) 2 (by simp -implicitDefEqProofs [hla, hlb, hw0, hw1, hnn, hnn2, hrep, hlt, hil, hia, hu, hkw, hlt, hkb, hv, hqN, w1, w2, w3, hkw2, huv, hG] <;> first | exact ⟨rfl, rfl, rfl, rfl⟩ | rfl) ?_
      refine DrO.nil ⟨by kernel_rfl, ?_⟩
      refine WpC.ops tabOk (r := []) (by simp -implicitDefEqProofs [hla, hlb, hw0, hw1, hnn, hnn2, hrep, hlt, hil, hia, hu, hkw, hlt, hkb, hv, hqN, w1, w2, w3, hkw2, huv, hG] <;> rfl) rfl ?_
      exact ⟨hlt, upd hh q (G + uv), hst, Gh.cut' [7, 2, 3, 4, 5, 6] 4 (by simp -implicitDefEqProofs [hla, hlb, hw0, hw1, hnn, hnn2, hrep, hlt, hil, hia, hu, hkw, hlt, hkb, hv, hqN, w1, w2, w3, hkw2, huv, hG]) (by simp -implicitDefEqProofs [hla, hlb, hw0, hw1, hnn, hnn2, hrep, hlt, hil, hia, hu, hkw, hlt, hkb, hv, hqN, w1, w2, w3, hkw2, huv, hG]) rfl (by simp) (by simp) (by simp)⟩
    · refine WpC.exit ?_
      have hkn : k = lb := by omega
      subst hkn
      have hi' := hi1
      refine WpC.ops tabOk (r := []) (by simp -implicitDefEqProofs [hla, hlb, hw0, hw1, hnn, hnn2, hrep, hlt, hil, hia, hu, hkw] <;> rfl) rfl ?_
      exact ⟨hlt, hh, hi'.next, Gh.cut' [6, 2, 3, 4, 5] 4 (by simp -implicitDefEqProofs [hla, hlb, hw0, hw1, hnn, hnn2, hrep, hlt, hil, hia, hu, hkw]) (by simp -implicitDefEqProofs [hla, hlb, hw0, hw1, hnn, hnn2, hrep, hlt, hil, hia, hu, hkw]) rfl (by simp) (by simp) (by simp)⟩
  · refine WpC.exit ?_
    have hka : k = la := by omega
    subst hka
    obtain ⟨hend, rfl⟩ : ∃ z, z = h := ⟨h, rfl⟩
    have hca : CaI X 100000 N 0 hend := by
      refine ⟨fun j hj => by omega, ?_, fun j _ => ?_, ?_⟩
      · have := hi.lo 0
        have := hi.hi 0
        omega
      · have := hi.lo j
        omega
      · rw [hi.val, hva, hvb, hXv]; simp [valF]
    refine WpC.seq ?_
    refine WpC.seq (WpC.ops tabOk (r := []) (by simp -implicitDefEqProofs [hla, hlb, hw0, hw1, hnn, hnn2, hrep] <;> rfl) rfl ?_)
    refine WpC.block ?_
    refine WpC.loopM [2, 3, 4, 5] [8] (fun c => n - c.1) ((0, hend) : Nat × (Nat → Int)) (fun c => [(8, .d (dI (c.1 : Nat)))]) (fun c => [.cells 65 [.d (.bool m1), .d (.list 1 (a.map dI))], .cells 65 [.d (.bool m2), .d (.list 1 (b.map dI))], .cells 65 [.d (.bool false), .d .nil], .arr 3 1 (rowF c.2 N)]) (fun c => c.1 ≤ n ∧ CaI X 100000 N c.1 c.2) (by simp -implicitDefEqProofs [hla, hlb, hw0, hw1, hnn, hnn2, hrep] <;> rfl) (Gh.cut' [8, 2, 3, 4, 5] 4 (by simp -implicitDefEqProofs [hla, hlb, hw0, hw1, hnn, hnn2, hrep]) (by simp -implicitDefEqProofs [hla, hlb, hw0, hw1, hnn, hnn2, hrep]) rfl (by simp) (by simp) (by simp)) (⟨by simp, hca⟩) ?_
    rintro c hi
    simp only [List.cons_append, List.nil_append]
    obtain ⟨i, g⟩ := c
    obtain ⟨h1, h2⟩ := hi
    simp only at h1 h2 ⊢
    have hw2 : IntKind.i64.wrap ((i : Int) + 1) = (i : Int) + 1 := wrapI (by omega) (by omega)
    refine WpC.seq ?_
    refine WpC.seq (WpC.ops tabOk (r := []) (by simp -implicitDefEqProofs [hla, hlb, hw0, hw1, hnn, hnn2, hrep, hw2] <;> rfl) rfl ?_)
    refine WpC.condD ((i : Int) + 1 < N) (by simp -implicitDefEqProofs [hla, hlb, hw0, hw1, hnn, hnn2, hrep, hw2]) (fun d55 => ?_) (fun d55 => ?_)
    · have hin : i + 1 < N := by omega
      have hi0N : i < N := by omega
      have hst := h2.step hin
      have h3 := h2.at_
      have h4 := h2.up (i + 1) (by omega)
      obtain ⟨U, hU⟩ : ∃ U, g (i + 1) = U := ⟨_, rfl⟩
      obtain ⟨V, hV⟩ : ∃ U, g i = U := ⟨_, rfl⟩
      rw [hU, hV] at hst
      rw [hU] at h4
      rw [hV] at h3
      obtain ⟨t, ht⟩ : ∃ t, V / 10 = t := ⟨_, rfl⟩
      obtain ⟨r, hr⟩ : ∃ t, V % 10 = t := ⟨_, rfl⟩
      rw [ht, hr] at hst
      have d1 : V.tdiv 10 = t := by rw [Int.tdiv_eq_ediv_of_nonneg h3.1, ht]
      have d2 : V.tmod 10 = r := by rw [Int.tmod_eq_emod_of_nonneg h3.1, hr]
      have v1 : IntKind.i64.wrap t = t := wrapI (by omega) (by omega)
      have v2 : IntKind.i64.wrap (U + t) = U + t := wrapI (by omega) (by omega)
      have v3 : (i : Int) + 1 < N := by omega
      have v4 : upd g (i + 1) (U + t) i = V := by rw [upd_get, if_neg (by omega), hV]
      have v5 : (0 : Int) ≤ (i : Int) + 1 := by omega
      refine WpC.skip ?_
      refine WpC.seq ?_
      refine WpC.block ?_
      refine WpC.seq (WpC.drawn tabOk (by kernel_rfl) 0 (by simp) ?_)
      refine DrO.run (fz := []) 3 (by simp -implicitDefEqProofs [hla, hlb, hw0, hw1, hnn, hnn2, hrep, hw2, d55, hin, hi0N, hU, hV, d1, d2, v1, v2, v4, v5] <;> first | exact ⟨rfl, rfl, rfl, rfl⟩ | rfl) ?_
      refine DrO.run (fz := []) 3 (by simp -implicitDefEqProofs [hla, hlb, hw0, hw1, hnn, hnn2, hrep, hw2, d55, hin, hi0N, hU, hV, d1, d2, v1, v2, v4, v5] <;> first | exact ⟨rfl, rfl, rfl, rfl⟩ | rfl) ?_
      refine DrO.run (fz := []) 3 (by simp -implicitDefEqProofs [hla, hlb, hw0, hw1, hnn, hnn2, hrep, hw2, d55, hin, hi0N, hU, hV, d1, d2, v1, v2, v4, v5] <;> first | exact ⟨rfl, rfl, rfl, rfl⟩ | rfl) ?_
      refine DrO.run (fz := []) 3 (by simp -implicitDefEqProofs [hla, hlb, hw0, hw1, hnn, hnn2, hrep, hw2, d55, hin, hi0N, hU, hV, d1, d2, v1, v2, v4, v5] <;> first | exact ⟨rfl, rfl, rfl, rfl⟩ | rfl) ?_
      refine DrO.run (fz := []) 1 (by simp -implicitDefEqProofs [hla, hlb, hw0, hw1, hnn, hnn2, hrep, hw2, d55, hin, hi0N, hU, hV, d1, d2, v1, v2, v4, v5] <;> first | exact ⟨rfl, rfl, rfl, rfl⟩ | rfl) ?_
      refine DrO.nil ⟨by kernel_rfl, ?_⟩
      refine WpC.ops tabOk (r := []) (by simp -implicitDefEqProofs [hla, hlb, hw0, hw1, hnn, hnn2, hrep, hw2, d55, hin, hi0N, hU, hV, d1, d2, v1, v2, v4, v5] <;> rfl) rfl ?_
      refine WpC.ops tabOk (r := []) (by simp -implicitDefEqProofs [hla, hlb, hw0, hw1, hnn, hnn2, hrep, hw2, d55, hin, hi0N, hU, hV, d1, d2, v1, v2, v4, v5] <;> rfl) rfl ?_
      exact ⟨(i + 1, upd (upd g (i + 1) (U + t)) i r), ⟨by simp; omega, hst⟩, by simp; omega, Gh.cut' [8, 2, 3, 4, 5] 4 (by simp -implicitDefEqProofs [hla, hlb, hw0, hw1, hnn, hnn2, hrep, hw2, d55, hin, hi0N, hU, hV, d1, d2, v1, v2, v4, v5]) (by simp -implicitDefEqProofs [hla, hlb, hw0, hw1, hnn, hnn2, hrep, hw2, d55, hin, hi0N, hU, hV, d1, d2, v1, v2, v4, v5]) rfl (by simp) (by simp) (by simp)⟩
    · have hie : i = n := by omega
      subst hie
      rw [← hN] at h2
      have hdig := h2.end hlt
      rw [hN] at hdig h2
      have hrt := row_trim hdig h2.val
      have hto := trim_ok g N (by omega)
      have hle := trimN_le g N
      have htl : trimN g N = 0 ↔ X = 0 := by
        rw [← hdg, ← trim_dgs hdig h2.val, listF_len]
      obtain ⟨m, hm⟩ : ∃ m, trimN g N = m := ⟨_, rfl⟩
      rw [hm] at hto hle hrt htl
      have hsg : signB m1 m2 X = (m1 != m2 && decide (0 < m)) := by
        unfold signB
        congr 1
        rw [decide_eq_decide]; omega
      refine WpC.exit ?_
      refine WpC.seq ?_
      refine WpC.region ?_
      refine WpO.run tabOk 1 (by simp -implicitDefEqProofs [hla, hlb, hw0, hw1, hnn, hnn2, hrep, hw2, d55] <;> first | exact ⟨rfl, rfl⟩ | rfl) ?_
      refine WpO.callP [3] (by simp) rfl (by simp -implicitDefEqProofs [hla, hlb, hw0, hw1, hnn, hnn2, hrep, hw2, d55] <;> rfl) (by simp -implicitDefEqProofs [hla, hlb, hw0, hw1, hnn, hnn2, hrep, hw2, d55] <;> rfl) call_39 (by simp) (by simp) (by simp) (by simp -implicitDefEqProofs [hla, hlb, hw0, hw1, hnn, hnn2, hrep, hw2, d55]) (by simp; rfl) (by simp -implicitDefEqProofs [hla, hlb, hw0, hw1, hnn, hnn2, hrep, hw2, d55]) ( hto) fun r S1 hr => ?_
      obtain ⟨rfl, rfl⟩ := hr
      refine ⟨_, by simp -implicitDefEqProofs [hla, hlb, hw0, hw1, hnn, hnn2, hrep, hw2, d55] <;> rfl, ?_⟩
      refine WpO.run tabOk 1 (by simp -implicitDefEqProofs [hla, hlb, hw0, hw1, hnn, hnn2, hrep, hw2, d55] <;> first | exact ⟨rfl, rfl⟩ | rfl) ?_
      refine WpO.nil ?_
      refine WpC.seq ?_
      rw [hsg]
      refine WpC.region ?_
      refine WpO.run tabOk 6 (by simp -implicitDefEqProofs [hla, hlb, hw0, hw1, hnn, hnn2, hrep, hw2, d55, hle] <;> first | exact ⟨rfl, rfl⟩ | rfl) ?_
      refine WpO.splitB 85 (by simp -implicitDefEqProofs [hla, hlb, hw0, hw1, hnn, hnn2, hrep, hw2, d55, hle] <;> rfl) (by rfl) (fun g85 => ?_) (fun g85 => ?_)
      · have g85' := g85; first | simp only [dT, dF] at g85' | try simp at g85'
        refine WpO.run tabOk 7 (by simp -implicitDefEqProofs [hla, hlb, hw0, hw1, hnn, hnn2, hrep, hw2, d55, hle, g85] <;> first | exact ⟨rfl, rfl⟩ | rfl) ?_
        refine WpO.nil ?_
        refine WpC.ret ?_
        try simp only [blockQ, seqQ]
        refine retD_i (by simp -implicitDefEqProofs [hla, hlb, hw0, hw1, hnn, hnn2, hrep, hw2, d55, hle, g85] <;> rfl) (by simp -implicitDefEqProofs [hla, hlb, hw0, hw1, hnn, hnn2, hrep, hw2, d55, hle, g85] <;> rfl) ?_
        simp [hrt, g85']
      · have g85' := g85; first | simp only [dT, dF] at g85' | try simp at g85'
        refine WpO.run tabOk 7 (by simp -implicitDefEqProofs [hla, hlb, hw0, hw1, hnn, hnn2, hrep, hw2, d55, hle, g85] <;> first | exact ⟨rfl, rfl⟩ | rfl) ?_
        refine WpO.nil ?_
        refine WpC.ret ?_
        try simp only [blockQ, seqQ]
        refine retD_i (by simp -implicitDefEqProofs [hla, hlb, hw0, hw1, hnn, hnn2, hrep, hw2, d55, hle, g85] <;> rfl) (by simp -implicitDefEqProofs [hla, hlb, hw0, hw1, hnn, hnn2, hrep, hw2, d55, hle, g85] <;> rfl) ?_
        simp [hrt, g85']
end Go.Proofs.Ytfbpcjkhgiickaa.Pay
