/- Law SplitEven. No statement of the seed is proved here. -/
import Derived.Test.YtfbpcjkhgiickaaSpT
import Derived.Test.YtfbpcjkhgiickaaSpS
namespace Go.Proofs.Ytfbpcjkhgiickaa.Pay
open Go Go.RowKit
set_option linter.unusedVariables false
set_option linter.unusedSimpArgs false
set_option linter.unusedSectionVars false

theorem half {T : Int} {t : Nat} (h : T / 2 = t) : T.fdiv (2 ^ min 1 IntKind.u64.bits) = (t : Int) := by
  have : ((2 : Int) ^ min 1 IntKind.u64.bits) = 2 := by decide
  rw [this, Int.fdiv_eq_ediv_of_nonneg _ (by omega), h]
theorem rep_add (c : Int) (k : Nat) : List.replicate (k + 1) (dI c) = List.replicate k (dI c) ++ [dI c] := List.replicate_succ'
set_option maxHeartbeats 4000000 in
theorem splitEven_ok (T m w : Int) (hT : 0 ≤ T ∧ T ≤ 18446744073709551615) (hm : 0 ≤ m ∧ m ≤ 255) (hw : 0 ≤ w ∧ w ≤ 4294967295) : Gives Try.prog 5 [.d (.int .u64 T), .d (.int .u8 m), .d (.int .u32 w)] (.d (.bool true)) := by
  obtain ⟨t, ht⟩ : ∃ t : Nat, T / 2 = t := ⟨(T / 2).toNat, by omega⟩
  obtain ⟨n, hn⟩ : ∃ n : Nat, 1 + m % 60 = n := ⟨(1 + m % 60).toNat, by omega⟩
  obtain ⟨c, hc⟩ : ∃ c : Nat, 1 + w = c := ⟨(1 + w).toNat, by omega⟩
  have hn1 : 1 ≤ n := by omega
  have hn60 : n ≤ 60 := by omega
  have hc1 : 1 ≤ c := by omega
  have hb : n * c ≤ 9223372036854775807 := by
    have : n * c ≤ 60 * 4294967296 := Nat.mul_le_mul hn60 (by omega)
    omega
  have e1 := half ht
  have e2 : IntKind.i64.wrap (t : Int) = t := wrapI (by omega) (by omega)
  have e3 : m.tmod 60 = m % 60 := Int.tmod_eq_emod_of_nonneg hm.1
  have e4 : IntKind.i64.wrap (m % 60) = m % 60 := wrapI (by omega) (by omega)
  have e5 : IntKind.i64.wrap (1 + m % 60) = n := by rw [hn]; exact wrapI (by omega) (by omega)
  have e6 : IntKind.i64.wrap w = w := wrapI (by omega) (by omega)
  have e7 : IntKind.i64.wrap (1 + w) = c := by rw [hc]; exact wrapI (by omega) (by omega)
  have hin : in64 (t : Int) := by unfold in64; omega
  obtain ⟨p1, p2⟩ := even_pt (t := t) hn1 hn60 hc1 hb
  obtain ⟨q1, q2⟩ := even_pt (t := t) (c := 1) hn1 hn60 (by decide) (by omega)
  have hev := evenL_ok t n hin
  have hE : evenE (t : Int) (n : Int) = 0 := by
    unfold evenE; rw [if_neg (by omega), if_neg (by omega), Int.toNat_natCast]; exact q1
  obtain ⟨L, hL⟩ : ∃ L, (List.range n).map (fun i => (evF t n i : Int)) = L := ⟨_, rfl⟩
  have hS : evenS (t : Int) (n : Int) = L := by
    unfold evenS; rw [if_neg (by omega), if_neg (by omega), Int.toNat_natCast, ← hL]; exact q2
  rw [hE, hS] at hev
  have hsp := splitL_ok (t : Int) (List.replicate n (c : Int)) hin (fun x hx => by rw [(List.mem_replicate.1 hx).2]; unfold in64; omega) (by simp; omega)
  rw [p1, p2, hL, List.map_replicate] at hsp
  have hLn : L.length = n := by rw [← hL]; simp
  have hLi : ∀ i (h : i < L.length), L[i] = (evF t n i : Int) := fun i h => by simp [← hL]
  have hsm := same_ok L L (by omega) (by omega)
  simp only [decide_true] at hsm
  refine Gives.enter tabOk Try.func5 rfl (by show 3 ≤ 89; decide) ?_
  simp only [Try.f5]
  refine WpC.seq (WpC.ops tabOk (r := []) (by simp -implicitDefEqProofs [e1, e2, e3, e4, e5, e6, e7, hLn] <;> rfl) rfl ?_)
  refine WpC.seq (WpC.ops tabOk (r := []) (by simp -implicitDefEqProofs [e1, e2, e3, e4, e5, e6, e7, hLn] <;> rfl) rfl ?_)
  refine WpC.seq ?_
  refine WpC.region ?_
  refine WpO.run tabOk 2 (by simp -implicitDefEqProofs [e1, e2, e3, e4, e5, e6, e7, hLn] <;> first | exact ⟨rfl, rfl⟩ | rfl) ?_
  refine WpO.data (by simp) rfl (by simp -implicitDefEqProofs [e1, e2, e3, e4, e5, e6, e7, hLn] <;> rfl) (by simp -implicitDefEqProofs [e1, e2, e3, e4, e5, e6, e7, hLn] <;> rfl) (by simp -implicitDefEqProofs [e1, e2, e3, e4, e5, e6, e7, hLn] <;> rfl) call_10 (by simp) (hev) (by rfl) (by simp -implicitDefEqProofs [e1, e2, e3, e4, e5, e6, e7, hLn] <;> rfl) ?_
  refine WpO.run tabOk 5 (by simp -implicitDefEqProofs [e1, e2, e3, e4, e5, e6, e7, hLn] <;> first | exact ⟨rfl, rfl⟩ | rfl) ?_
  refine WpO.nil ?_
  refine WpC.seq (WpC.ops tabOk (r := []) (by simp -implicitDefEqProofs [e1, e2, e3, e4, e5, e6, e7, hLn] <;> rfl) rfl ?_)
  refine WpC.seq ?_
  refine WpC.gh (Gh.nilArr 3 1 (t := 11) (by simp) (by simp)) ?_
  refine WpC.seq (WpC.ops tabOk (r := []) (by simp -implicitDefEqProofs [e1, e2, e3, e4, e5, e6, e7, hLn] <;> rfl) rfl ?_)
  refine WpC.block ?_
  refine WpC.loopK [2, 7, 8, 9, 10, 28] [11, 29] (n) (() : Unit) (fun k _ => [(11, .sl 0 k), (29, .d (.int .i64 k))]) (fun k _ => [.arr 3 1 (List.replicate k (dI (c : Int)))]) (fun k _ => True) (by simp -implicitDefEqProofs [e1, e2, e3, e4, e5, e6, e7, hLn] <;> rfl) (Gh.cut' [11, 29, 2, 7, 8, 9, 10, 28] 1 (by simp -implicitDefEqProofs [e1, e2, e3, e4, e5, e6, e7, hLn]) (by simp -implicitDefEqProofs [e1, e2, e3, e4, e5, e6, e7, hLn]) rfl (by simp) (by simp) (by simp)) (by simp) ?_
  rintro k ⟨⟩ hk hi
  simp only [List.cons_append, List.nil_append]
  refine WpC.seq (WpC.ops tabOk (r := []) (by simp -implicitDefEqProofs [e1, e2, e3, e4, e5, e6, e7, hLn] <;> rfl) rfl ?_)
  refine WpC.seq (WpC.condD (k < n) (by simp -implicitDefEqProofs [e1, e2, e3, e4, e5, e6, e7, hLn] <;> omega) (fun hlt => ?_) (fun hge => ?_))
  · refine WpC.skip ?_
    have hra := rep_add (c : Int) k
    have hkw : IntKind.i64.wrap ((k : Int) + 1) = k + 1 := wrapI (by omega) (by omega)
    have hks : k ≤ 8589934591 := by omega
    refine WpC.seq ?_
    refine WpC.block ?_
    refine WpC.ops tabOk (r := []) (by simp -implicitDefEqProofs [e1, e2, e3, e4, e5, e6, e7, hLn, hlt, hkw, hks] <;> rfl) rfl ?_
    refine WpC.ops tabOk (r := []) (by simp -implicitDefEqProofs [e1, e2, e3, e4, e5, e6, e7, hLn, hlt, hkw, hks] <;> rfl) rfl ?_
    exact ⟨hlt, (), trivial, Gh.pick [11, 29, 2, 7, 8, 9, 10, 28] [2] (by simp -implicitDefEqProofs [e1, e2, e3, e4, e5, e6, e7, hLn, hlt, hkw, hks, hra]; rfl) (by simp -implicitDefEqProofs [e1, e2, e3, e4, e5, e6, e7, hLn, hlt, hkw, hks, hra]) (by simp) (by simp) (by simp; rfl) (by simp -implicitDefEqProofs [e1, e2, e3, e4, e5, e6, e7, hLn, hlt, hkw, hks, hra]) (by simp)⟩
  · refine WpC.exit ?_
    have hkn : n = k := by omega
    subst hkn
    refine WpC.seq ?_
    refine WpC.region ?_
    refine WpO.run tabOk 2 (by simp -implicitDefEqProofs [e1, e2, e3, e4, e5, e6, e7, hLn] <;> first | exact ⟨rfl, rfl⟩ | rfl) ?_
    refine WpO.gh (Gh.frz [0]) ?_
    refine WpO.data (by simp) rfl (by simp -implicitDefEqProofs [e1, e2, e3, e4, e5, e6, e7, hLn] <;> rfl) (by simp -implicitDefEqProofs [e1, e2, e3, e4, e5, e6, e7, hLn] <;> rfl) (by simp -implicitDefEqProofs [e1, e2, e3, e4, e5, e6, e7, hLn] <;> rfl) call_9 (by simp) ( hsp) (by rfl) (by simp -implicitDefEqProofs [e1, e2, e3, e4, e5, e6, e7, hLn] <;> rfl) ?_
    refine WpO.run tabOk 5 (by simp -implicitDefEqProofs [e1, e2, e3, e4, e5, e6, e7, hLn] <;> first | exact ⟨rfl, rfl⟩ | rfl) ?_
    refine WpO.nil ?_
    refine WpC.seq ?_
    refine WpC.seq ?_
    refine WpC.val 61 (.d (.bool (false))) ?_ ?_
    · refine WpC.region ?_
      refine WpO.run tabOk 3 (by simp -implicitDefEqProofs [e1, e2, e3, e4, e5, e6, e7, hLn] <;> first | exact ⟨rfl, rfl⟩ | rfl) ?_
      refine WpO.splitB 46 (by simp -implicitDefEqProofs [e1, e2, e3, e4, e5, e6, e7, hLn] <;> rfl) (by rfl) (fun g46 => ?_) (fun g46 => ?_)
      · try (exfalso; revert g46; simp; done)
        all_goals
          have g46' := g46; first | simp only [dT, dF] at g46' | try simp at g46'
          refine WpO.run tabOk 15 (by simp -implicitDefEqProofs [e1, e2, e3, e4, e5, e6, e7, hLn, g46] <;> first | exact ⟨rfl, rfl⟩ | rfl) ?_
          refine WpO.nil ?_
          refine ⟨rfl, Gh.only 61 19 ?_ (by first | rfl | simp -implicitDefEqProofs [e1, e2, e3, e4, e5, e6, e7, hLn, g46]) (by rfl)⟩
          simp -implicitDefEqProofs [e1, e2, e3, e4, e5, e6, e7, hLn, g46, g46']
      · try (exfalso; revert g46; simp; done)
        all_goals
          have g46' := g46; first | simp only [dT, dF] at g46' | try simp at g46'
          refine WpO.run tabOk 4 (by simp -implicitDefEqProofs [e1, e2, e3, e4, e5, e6, e7, hLn, g46] <;> first | exact ⟨rfl, rfl⟩ | rfl) ?_
          refine WpO.splitB 50 (by simp -implicitDefEqProofs [e1, e2, e3, e4, e5, e6, e7, hLn, g46] <;> rfl) (by rfl) (fun g50 => ?_) (fun g50 => ?_)
          · try (exfalso; revert g50; simp; done)
            all_goals
              have g50' := g50; first | simp only [dT, dF] at g50' | try simp at g50'
              refine WpO.run tabOk 11 (by simp -implicitDefEqProofs [e1, e2, e3, e4, e5, e6, e7, hLn, g46, g50] <;> first | exact ⟨rfl, rfl⟩ | rfl) ?_
              refine WpO.nil ?_
              refine ⟨rfl, Gh.only 61 20 ?_ (by first | rfl | simp -implicitDefEqProofs [e1, e2, e3, e4, e5, e6, e7, hLn, g46, g50]) (by rfl)⟩
              simp -implicitDefEqProofs [e1, e2, e3, e4, e5, e6, e7, hLn, g46, g50, g46', g50']
          · try (exfalso; revert g50; simp; done)
            all_goals
              have g50' := g50; first | simp only [dT, dF] at g50' | try simp at g50'
              refine WpO.run tabOk 6 (by simp -implicitDefEqProofs [e1, e2, e3, e4, e5, e6, e7, hLn, g46, g50] <;> first | exact ⟨rfl, rfl⟩ | rfl) ?_
              refine WpO.splitB 56 (by simp -implicitDefEqProofs [e1, e2, e3, e4, e5, e6, e7, hLn, g46, g50] <;> rfl) (by rfl) (fun g56 => ?_) (fun g56 => ?_)
              · try (exfalso; revert g56; simp; done)
                all_goals
                  have g56' := g56; first | simp only [dT, dF] at g56' | try simp at g56'
                  refine WpO.run tabOk 5 (by simp -implicitDefEqProofs [e1, e2, e3, e4, e5, e6, e7, hLn, g46, g50, g56] <;> first | exact ⟨rfl, rfl⟩ | rfl) ?_
                  refine WpO.nil ?_
                  refine ⟨rfl, Gh.only 61 21 ?_ (by first | rfl | simp -implicitDefEqProofs [e1, e2, e3, e4, e5, e6, e7, hLn, g46, g50, g56]) (by rfl)⟩
                  simp -implicitDefEqProofs [e1, e2, e3, e4, e5, e6, e7, hLn, g46, g50, g56, g46', g50', g56']
              · try (exfalso; revert g56; simp; done)
                all_goals
                  have g56' := g56; first | simp only [dT, dF] at g56' | try simp at g56'
                  refine WpO.run tabOk 2 (by simp -implicitDefEqProofs [e1, e2, e3, e4, e5, e6, e7, hLn, g46, g50, g56] <;> first | exact ⟨rfl, rfl⟩ | rfl) ?_
                  refine WpO.data (by simp) rfl (by simp -implicitDefEqProofs [e1, e2, e3, e4, e5, e6, e7, hLn, g46, g50, g56] <;> rfl) (by simp -implicitDefEqProofs [e1, e2, e3, e4, e5, e6, e7, hLn, g46, g50, g56] <;> rfl) (by simp -implicitDefEqProofs [e1, e2, e3, e4, e5, e6, e7, hLn, g46, g50, g56] <;> rfl) call_12 (by simp) (hsm) (by rfl) (by simp -implicitDefEqProofs [e1, e2, e3, e4, e5, e6, e7, hLn, g46, g50, g56] <;> rfl) ?_
                  refine WpO.run tabOk 2 (by simp -implicitDefEqProofs [e1, e2, e3, e4, e5, e6, e7, hLn, g46, g50, g56] <;> first | exact ⟨rfl, rfl⟩ | rfl) ?_
                  refine WpO.nil ?_
                  refine ⟨rfl, Gh.only 61 21 ?_ (by first | rfl | simp -implicitDefEqProofs [e1, e2, e3, e4, e5, e6, e7, hLn, g46, g50, g56]) (by rfl)⟩
                  simp -implicitDefEqProofs [e1, e2, e3, e4, e5, e6, e7, hLn, g46, g50, g56, g46', g50', g56']
    refine WpC.condF (by simp -implicitDefEqProofs [e1, e2, e3, e4, e5, e6, e7, hLn] <;> rfl) ?_
    refine WpC.skip ?_
    refine WpC.seq ?_
    refine WpC.seq (WpC.ops tabOk (r := []) (by simp -implicitDefEqProofs [e1, e2, e3, e4, e5, e6, e7, hLn] <;> rfl) rfl ?_)
    refine WpC.block ?_
    refine WpC.loopM [8, 9] [14] (fun j => n - j) (1 : Nat) (fun j => [(14, .d (dI (j : Nat)))]) (fun j => []) (fun j => 1 ≤ j ∧ j ≤ n) (by simp -implicitDefEqProofs [e1, e2, e3, e4, e5, e6, e7, hLn] <;> rfl) (Gh.cut' [14, 8, 9] 0 (by simp -implicitDefEqProofs [e1, e2, e3, e4, e5, e6, e7, hLn]) (by simp -implicitDefEqProofs [e1, e2, e3, e4, e5, e6, e7, hLn]) rfl (by simp) (by simp) (by simp)) (⟨by simp, hn1⟩) ?_
    rintro j hi
    simp only [List.cons_append, List.nil_append]
    refine WpC.seq ?_
    refine WpC.seq (WpC.ops tabOk (r := []) (by simp -implicitDefEqProofs [e1, e2, e3, e4, e5, e6, e7, hLn] <;> rfl) rfl ?_)
    refine WpC.condR (by simp -implicitDefEqProofs [e1, e2, e3, e4, e5, e6, e7, hLn] <;> rfl) (by rfl) (fun c64 => ?_) (fun c64 => ?_)
    · have c64' := c64; first | simp only [dT, dF] at c64' | try simp at c64'
      have hjn : j < n := by simpa using c64
      obtain ⟨i, rfl⟩ : ∃ i, j = i + 1 := ⟨j - 1, by omega⟩
      have hjw : IntKind.i64.wrap ((i : Int) + 1 + 1) = (i : Int) + 2 := by rw [wrapI (by omega) (by omega)]; omega
      have hjs : IntKind.i64.wrap (i : Int) = (i : Int) := wrapI (by omega) (by omega)
      obtain ⟨x, hx⟩ : ∃ x, L[i + 1]'(by omega) = x := ⟨_, rfl⟩
      obtain ⟨y, hy⟩ : ∃ y, L[i]'(by omega) = y := ⟨_, rfl⟩
      obtain ⟨z, hz⟩ : ∃ z, L[0]'(by omega) = z := ⟨_, rfl⟩
      have l1 := evF_le (t := t) (n := n) (show i ≤ i + 1 by omega)
      have l2 := evF_le (t := t) (n := n) (Nat.zero_le (i + 1))
      have h1 := hLi (i + 1) (by omega)
      have h2 := hLi i (by omega)
      have h3 := hLi 0 (by omega)
      rw [hx] at h1
      rw [hy] at h2
      rw [hz] at h3
      have hxy : ¬ y < x := by omega
      have hle : evF t n 0 ≤ t + 1 := by have := Nat.div_le_self t n; unfold evF; split <;> omega
      have hzw : IntKind.i64.wrap (z - 1) = z - 1 := wrapI (by omega) (by omega)
      have hxz : ¬ x < z - 1 := by omega
      have hj1 : (i : Int) + 1 < n := by omega
      have hj2 : (0 : Int) ≤ (i : Int) + 1 := by omega
      have hj3 : i < n := by omega
      have hj4 : 0 < n := by omega
      refine WpC.skip ?_
      refine WpC.seq ?_
      refine WpC.block ?_
      refine WpC.seq ?_
      refine WpC.val 87 (.d (.bool (false))) ?_ ?_
      · refine WpC.drawn tabOk (by kernel_rfl) 0 (by simp) ?_
        refine DrO.run (fz := []) 3 (by simp -implicitDefEqProofs [e1, e2, e3, e4, e5, e6, e7, hLn, c64, hjn, hjw, hjs, hx, hy, hz, hxy, hzw, hxz, hj1, hj2, hj3, hj4] <;> first | exact ⟨rfl, rfl, rfl, rfl⟩ | rfl) ?_
        refine DrO.run (fz := []) 3 (by simp -implicitDefEqProofs [e1, e2, e3, e4, e5, e6, e7, hLn, c64, hjn, hjw, hjs, hx, hy, hz, hxy, hzw, hxz, hj1, hj2, hj3, hj4] <;> first | exact ⟨rfl, rfl, rfl, rfl⟩ | rfl) ?_
        refine DrO.run (fz := []) 3 (by simp -implicitDefEqProofs [e1, e2, e3, e4, e5, e6, e7, hLn, c64, hjn, hjw, hjs, hx, hy, hz, hxy, hzw, hxz, hj1, hj2, hj3, hj4] <;> first | exact ⟨rfl, rfl, rfl, rfl⟩ | rfl) ?_
        refine DrO.run (fz := []) 2 (by simp -implicitDefEqProofs [e1, e2, e3, e4, e5, e6, e7, hLn, c64, hjn, hjw, hjs, hx, hy, hz, hxy, hzw, hxz, hj1, hj2, hj3, hj4] <;> first | exact ⟨rfl, rfl, rfl, rfl⟩ | rfl) ?_
        refine DrO.splitB 77 (by simp -implicitDefEqProofs [e1, e2, e3, e4, e5, e6, e7, hLn, c64, hjn, hjw, hjs, hx, hy, hz, hxy, hzw, hxz, hj1, hj2, hj3, hj4] <;> rfl) (by rfl) (fun g77 => ?_) (fun g77 => ?_)
        · try (exfalso; revert g77; simp; done)
          all_goals
            have g77' := g77; first | simp only [dT, dF] at g77' | try simp at g77'
            refine DrO.run (fz := []) 3 (by simp -implicitDefEqProofs [e1, e2, e3, e4, e5, e6, e7, hLn, c64, hjn, hjw, hjs, hx, hy, hz, hxy, hzw, hxz, hj1, hj2, hj3, hj4, g77] <;> first | exact ⟨rfl, rfl, rfl, rfl⟩ | rfl) ?_
            refine DrO.run (fz := []) 3 (by simp -implicitDefEqProofs [e1, e2, e3, e4, e5, e6, e7, hLn, c64, hjn, hjw, hjs, hx, hy, hz, hxy, hzw, hxz, hj1, hj2, hj3, hj4, g77] <;> first | exact ⟨rfl, rfl, rfl, rfl⟩ | rfl) ?_
            refine DrO.run (fz := []) 3 (by simp -implicitDefEqProofs [e1, e2, e3, e4, e5, e6, e7, hLn, c64, hjn, hjw, hjs, hx, hy, hz, hxy, hzw, hxz, hj1, hj2, hj3, hj4, g77] <;> first | exact ⟨rfl, rfl, rfl, rfl⟩ | rfl) ?_
            refine DrO.run (fz := []) 1 (by simp -implicitDefEqProofs [e1, e2, e3, e4, e5, e6, e7, hLn, c64, hjn, hjw, hjs, hx, hy, hz, hxy, hzw, hxz, hj1, hj2, hj3, hj4, g77] <;> first | exact ⟨rfl, rfl, rfl, rfl⟩ | rfl) ?_
            refine DrO.nil ⟨by kernel_rfl, ?_⟩
            refine ⟨rfl, Gh.only 87 21 ?_ (by first | rfl | simp -implicitDefEqProofs [e1, e2, e3, e4, e5, e6, e7, hLn, c64, hjn, hjw, hjs, hx, hy, hz, hxy, hzw, hxz, hj1, hj2, hj3, hj4, g77]) (by rfl)⟩
            simp -implicitDefEqProofs [e1, e2, e3, e4, e5, e6, e7, hLn, c64, hjn, hjw, hjs, hx, hy, hz, hxy, hzw, hxz, hj1, hj2, hj3, hj4, g77, g77']
        · try (exfalso; revert g77; simp; done)
          all_goals
            have g77' := g77; first | simp only [dT, dF] at g77' | try simp at g77'
            refine DrO.run (fz := []) 3 (by simp -implicitDefEqProofs [e1, e2, e3, e4, e5, e6, e7, hLn, c64, hjn, hjw, hjs, hx, hy, hz, hxy, hzw, hxz, hj1, hj2, hj3, hj4, g77] <;> first | exact ⟨rfl, rfl, rfl, rfl⟩ | rfl) ?_
            refine DrO.run (fz := []) 3 (by simp -implicitDefEqProofs [e1, e2, e3, e4, e5, e6, e7, hLn, c64, hjn, hjw, hjs, hx, hy, hz, hxy, hzw, hxz, hj1, hj2, hj3, hj4, g77] <;> first | exact ⟨rfl, rfl, rfl, rfl⟩ | rfl) ?_
            refine DrO.run (fz := []) 3 (by simp -implicitDefEqProofs [e1, e2, e3, e4, e5, e6, e7, hLn, c64, hjn, hjw, hjs, hx, hy, hz, hxy, hzw, hxz, hj1, hj2, hj3, hj4, g77] <;> first | exact ⟨rfl, rfl, rfl, rfl⟩ | rfl) ?_
            refine DrO.run (fz := []) 1 (by simp -implicitDefEqProofs [e1, e2, e3, e4, e5, e6, e7, hLn, c64, hjn, hjw, hjs, hx, hy, hz, hxy, hzw, hxz, hj1, hj2, hj3, hj4, g77] <;> first | exact ⟨rfl, rfl, rfl, rfl⟩ | rfl) ?_
            refine DrO.nil ⟨by kernel_rfl, ?_⟩
            refine ⟨rfl, Gh.only 87 21 ?_ (by first | rfl | simp -implicitDefEqProofs [e1, e2, e3, e4, e5, e6, e7, hLn, c64, hjn, hjw, hjs, hx, hy, hz, hxy, hzw, hxz, hj1, hj2, hj3, hj4, g77]) (by rfl)⟩
            simp -implicitDefEqProofs [e1, e2, e3, e4, e5, e6, e7, hLn, c64, hjn, hjw, hjs, hx, hy, hz, hxy, hzw, hxz, hj1, hj2, hj3, hj4, g77, g77']
      refine WpC.condF (by simp -implicitDefEqProofs [e1, e2, e3, e4, e5, e6, e7, hLn, c64, hjn, hjw, hjs, hx, hy, hz, hxy, hzw, hxz, hj1, hj2, hj3, hj4] <;> rfl) ?_
      refine WpC.skip ?_
      refine WpC.ops tabOk (r := []) (by simp -implicitDefEqProofs [e1, e2, e3, e4, e5, e6, e7, hLn, c64, hjn, hjw, hjs, hx, hy, hz, hxy, hzw, hxz, hj1, hj2, hj3, hj4] <;> rfl) rfl ?_
      exact ⟨i + 2, by omega, by omega, Gh.cut' [14, 8, 9] 0 (by simp -implicitDefEqProofs [e1, e2, e3, e4, e5, e6, e7, hLn, c64, hjn, hjw, hjs, hx, hy, hz, hxy, hzw, hxz, hj1, hj2, hj3, hj4, c64']) (by simp) rfl (by simp) (by simp) (by simp)⟩
    · have c64' := c64; first | simp only [dT, dF] at c64' | try simp at c64'
      refine WpC.exit ?_
      refine WpC.seq ?_
      refine WpC.region ?_
      refine WpO.data (by simp) rfl (by simp -implicitDefEqProofs [e1, e2, e3, e4, e5, e6, e7, hLn, c64] <;> rfl) (by simp -implicitDefEqProofs [e1, e2, e3, e4, e5, e6, e7, hLn, c64] <;> rfl) (by simp -implicitDefEqProofs [e1, e2, e3, e4, e5, e6, e7, hLn, c64] <;> rfl) call_8 (by simp) (awake4_ok) (by rfl) (by simp -implicitDefEqProofs [e1, e2, e3, e4, e5, e6, e7, hLn, c64] <;> rfl) ?_
      refine WpO.run tabOk 1 (by simp -implicitDefEqProofs [e1, e2, e3, e4, e5, e6, e7, hLn, c64] <;> first | exact ⟨rfl, rfl⟩ | rfl) ?_
      refine WpO.nil ?_
      refine WpC.ret ?_
      try simp only [blockQ, seqQ]
      refine retD_i (by simp -implicitDefEqProofs [e1, e2, e3, e4, e5, e6, e7, hLn, c64] <;> rfl) (by simp -implicitDefEqProofs [e1, e2, e3, e4, e5, e6, e7, hLn, c64] <;> rfl) ?_
      simp -implicitDefEqProofs [e1, e2, e3, e4, e5, e6, e7, hLn, c64]
section
variable {w : World}
theorem splitEven_row {e0 e1 e2 : List D} {v0 v1 v2 : Value} {i0 i1 i2 : TI} (y0 : HasT tab 8 34 e0) (y1 : HasT tab 8 5 e1) (y2 : HasT tab 8 35 e2) (t0 : some i0 = tab 34) (t1 : some i1 = tab 5) (t2 : some i2 = tab 35)
    (z0 : DRel w (lt w) (elemD i0 e0) v0) (z1 : DRel w (lt w) (elemD i1 e1) v1) (z2 : DRel w (lt w) (elemD i2 e2) v2) :
    Calls Try.prog 5 #[v0, v1, v2] w fun e w' => e = .returned (.bool true) ∧ Below w.heap.size w w' := by
  rw [tab_34] at t0; cases t0
  rw [tab_5] at t1; cases t1
  rw [tab_35] at t2; cases t2
  obtain ⟨n, rfl, hn⟩ := has_num y0 tab_34
  obtain ⟨m, rfl, hm⟩ := has_num y1 tab_5
  obtain ⟨k, rfl, hk⟩ := has_num y2 tab_35
  refine WpF.law (splitEven_ok n m k ⟨hn.1, hn.2⟩ ⟨hm.1, hm.2⟩ ⟨hk.1, hk.2⟩) (fun r S h => h.1) (vs := [v0, v1, v2]) ?_
  simp only [VRelL, VRel]
  exact ⟨v0, _, rfl, z0, v1, _, rfl, z1, v2, _, rfl, z2, rfl⟩
end
end Go.Proofs.Ytfbpcjkhgiickaa.Pay
