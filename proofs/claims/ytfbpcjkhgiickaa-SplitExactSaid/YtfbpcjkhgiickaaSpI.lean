/- wide: products and quotients. money: sums. No statement of the seed is proved here. -/
import Derived.Test.YtfbpcjkhgiickaaSpH
namespace Go.Proofs.Ytfbpcjkhgiickaa.Pay
open Go Go.RowKit
set_option linter.unusedVariables false
set_option linter.unusedSimpArgs false
set_option maxRecDepth 20000

theorem up0_ok (q l c : Nat) : Gives Try.prog 32 [.d (dI 0), .d (.int .u64 q), .d (.int .u64 l), .d (.int .u64 c)] (.d (.bool false)) := by
  refine Gives.enter tabOk Try.func32 rfl (by show 4 ≤ 39; decide) ?_
  simp only [Try.f32]
  refine WpC.seq (WpC.ops tabOk (r := []) (by simp -implicitDefEqProofs <;> rfl) rfl ?_)
  refine WpC.seq ?_
  refine WpC.seq (WpC.ops tabOk (r := []) (by simp -implicitDefEqProofs <;> rfl) rfl ?_)
  refine WpC.block ?_
  refine WpC.seq (WpC.ops tabOk (r := []) (by simp -implicitDefEqProofs <;> rfl) rfl ?_)
  refine WpC.condT (by simp -implicitDefEqProofs <;> rfl) ?_
  refine WpC.seq (WpC.ops tabOk (r := []) (by simp -implicitDefEqProofs <;> rfl) rfl ?_)
  refine WpC.ret ?_
  try simp only [blockQ, seqQ]
  refine retD_i (by simp -implicitDefEqProofs <;> rfl) (by simp -implicitDefEqProofs <;> rfl) ?_
  simp -implicitDefEqProofs
def rightM (n : Int) : Bool := decide (-9223372036854775807 ≤ n)
theorem rightM_ok (n : Int) : Gives Try.prog 28 [.d (dI n)] (.d (.bool (rightM n))) := by
  refine Gives.enter tabOk Try.func28 rfl (by show 1 ≤ 5; decide) ?_
  simp only [Try.f28]
  refine WpC.seq (WpC.ops tabOk (r := []) (by simp -implicitDefEqProofs <;> rfl) rfl ?_)
  refine WpC.seq (WpC.ops tabOk (r := []) (by simp -implicitDefEqProofs <;> rfl) rfl ?_)
  refine WpC.ret ?_
  try simp only [blockQ, seqQ]
  refine retD_i (by simp -implicitDefEqProofs <;> rfl) (by simp -implicitDefEqProofs <;> rfl) ?_
  simp [rightM]

theorem mulDiv_ok (a b c : Nat) (ha : a ≤ 9223372036854775807) (hb : b ≤ c) (hc : 0 < c) (hc2 : c ≤ 9223372036854775807) :
    Gives Try.prog 17 [.d (dI a), .d (dI b), .d (dI c), .d (dI 0)] (.tup [.d (dI (a * b / c : Nat)), .d (dI 0)]) := by
  have hab : a * b ≤ a * c := Nat.mul_le_mul_left _ hb
  have hq : a * b / c ≤ a := Nat.div_le_of_le_mul (by rw [Nat.mul_comm c]; exact hab)
  have hm := mul64_ok a b (by omega) (by omega)
  obtain ⟨h, hh⟩ : ∃ h, a * b / 18446744073709551616 = h := ⟨_, rfl⟩
  obtain ⟨l, hl⟩ : ∃ h, a * b % 18446744073709551616 = h := ⟨_, rfl⟩
  have hhl : h * 18446744073709551616 + l = a * b := by rw [← hh, ← hl]; exact Nat.div_add_mod' _ _
  have hhc : h < c := by
    rw [← hh, Nat.div_lt_iff_lt_mul (by omega)]
    have h1 : a * c ≤ 9223372036854775807 * c := Nat.mul_le_mul_right _ ha
    omega
  have hl2 : l < 18446744073709551616 := by rw [← hl]; exact Nat.mod_lt _ (by omega)
  have hd := div64_ok h l c hhc hl2 (by omega)
  rw [hhl] at hd
  rw [hh, hl] at hm
  obtain ⟨q, hqe⟩ : ∃ q, a * b / c = q := ⟨_, rfl⟩
  obtain ⟨r, hre⟩ : ∃ q, a * b % c = q := ⟨_, rfl⟩
  rw [hqe] at hd hq ⊢
  rw [hre] at hd
  have s1 := size_ok a (by omega)
  have s2 := size_ok b (by omega)
  have s3 := size_ok c (by omega)
  rw [show (a : Int).natAbs = a from rfl] at s1
  rw [show (b : Int).natAbs = b from rfl] at s2
  rw [show (c : Int).natAbs = c from rfl] at s3
  have r1 := rightM_ok a
  have r2 := rightM_ok b
  have r3 := rightM_ok c
  rw [show rightM a = true from decide_eq_true (by omega)] at r1
  rw [show rightM b = true from decide_eq_true (by omega)] at r2
  rw [show rightM c = true from decide_eq_true (by omega)] at r3
  have z1 : ¬ c = 0 := by omega
  have z2 : ¬ c ≤ h := by omega
  have z3 : (q : Int) ≤ 9223372036854775807 := by omega
  have z4 : ¬ (9223372036854775807 : Int) < q := by omega
  have z5 : IntKind.i64.wrap (q : Int) = q := wrapI (by omega) (by omega)
  have z6 : ¬ (a : Int) < 0 := by omega
  have z7 : ¬ (b : Int) < 0 := by omega
  have z8 : ¬ (c : Int) < 0 := by omega
  refine Gives.enter tabOk Try.func17 rfl (by show 4 ≤ 86; decide) ?_
  simp only [Try.f17]
  refine WpC.seq (WpC.ops tabOk (r := []) (by simp -implicitDefEqProofs [z1, z2, z3, z4, z5, z6, z7, z8] <;> rfl) rfl ?_)
  refine WpC.seq ?_
  refine WpC.block ?_
  refine WpC.seq ?_
  refine WpC.val 16 (.d (.bool (false))) ?_ ?_
  · refine WpC.region ?_
    refine WpO.run tabOk 3 (by simp -implicitDefEqProofs [z1, z2, z3, z4, z5, z6, z7, z8] <;> first | exact ⟨rfl, rfl⟩ | rfl) ?_
    refine WpO.splitB 19 (by simp -implicitDefEqProofs [z1, z2, z3, z4, z5, z6, z7, z8] <;> rfl) (by rfl) (fun g19 => ?_) (fun g19 => ?_)
    · try (exfalso; revert g19; simp; done)
      all_goals
        have g19' := g19; first | simp only [dT, dF] at g19' | try simp at g19'
        refine WpO.run tabOk 4 (by simp -implicitDefEqProofs [z1, z2, z3, z4, z5, z6, z7, z8, g19] <;> first | exact ⟨rfl, rfl⟩ | rfl) ?_
        refine WpO.nil ?_
        refine ⟨rfl, Gh.only 16 8 ?_ (by first | rfl | simp -implicitDefEqProofs [z1, z2, z3, z4, z5, z6, z7, z8, g19]) (by rfl)⟩
        simp -implicitDefEqProofs [z1, z2, z3, z4, z5, z6, z7, z8, g19, g19']
    · try (exfalso; revert g19; simp; done)
      all_goals
        have g19' := g19; first | simp only [dT, dF] at g19' | try simp at g19'
        refine WpO.run tabOk 4 (by simp -implicitDefEqProofs [z1, z2, z3, z4, z5, z6, z7, z8, g19] <;> first | exact ⟨rfl, rfl⟩ | rfl) ?_
        refine WpO.nil ?_
        refine ⟨rfl, Gh.only 16 8 ?_ (by first | rfl | simp -implicitDefEqProofs [z1, z2, z3, z4, z5, z6, z7, z8, g19]) (by rfl)⟩
        simp -implicitDefEqProofs [z1, z2, z3, z4, z5, z6, z7, z8, g19, g19']
  refine WpC.condF (by simp -implicitDefEqProofs [z1, z2, z3, z4, z5, z6, z7, z8] <;> rfl) ?_
  refine WpC.seq ?_
  refine WpC.val 23 (.d (.bool (false))) ?_ ?_
  · refine WpC.region ?_
    refine WpO.run tabOk 1 (by simp -implicitDefEqProofs [z1, z2, z3, z4, z5, z6, z7, z8] <;> first | exact ⟨rfl, rfl⟩ | rfl) ?_
    refine WpO.data (by simp) rfl (by simp -implicitDefEqProofs [z1, z2, z3, z4, z5, z6, z7, z8] <;> rfl) (by simp -implicitDefEqProofs [z1, z2, z3, z4, z5, z6, z7, z8] <;> rfl) (by simp -implicitDefEqProofs [z1, z2, z3, z4, z5, z6, z7, z8] <;> rfl) call_28 (by simp) (r1) (by rfl) (by simp -implicitDefEqProofs [z1, z2, z3, z4, z5, z6, z7, z8] <;> rfl) ?_
    refine WpO.run tabOk 2 (by simp -implicitDefEqProofs [z1, z2, z3, z4, z5, z6, z7, z8] <;> first | exact ⟨rfl, rfl⟩ | rfl) ?_
    refine WpO.splitB 27 (by simp -implicitDefEqProofs [z1, z2, z3, z4, z5, z6, z7, z8] <;> rfl) (by rfl) (fun g27 => ?_) (fun g27 => ?_)
    · try (exfalso; revert g27; simp; done)
      all_goals
        have g27' := g27; first | simp only [dT, dF] at g27' | try simp at g27'
        refine WpO.run tabOk 10 (by simp -implicitDefEqProofs [z1, z2, z3, z4, z5, z6, z7, z8, g27] <;> first | exact ⟨rfl, rfl⟩ | rfl) ?_
        refine WpO.nil ?_
        refine ⟨rfl, Gh.only 23 15 ?_ (by first | rfl | simp -implicitDefEqProofs [z1, z2, z3, z4, z5, z6, z7, z8, g27]) (by rfl)⟩
        simp -implicitDefEqProofs [z1, z2, z3, z4, z5, z6, z7, z8, g27, g27']
    · try (exfalso; revert g27; simp; done)
      all_goals
        have g27' := g27; first | simp only [dT, dF] at g27' | try simp at g27'
        refine WpO.run tabOk 1 (by simp -implicitDefEqProofs [z1, z2, z3, z4, z5, z6, z7, z8, g27] <;> first | exact ⟨rfl, rfl⟩ | rfl) ?_
        refine WpO.data (by simp) rfl (by simp -implicitDefEqProofs [z1, z2, z3, z4, z5, z6, z7, z8, g27] <;> rfl) (by simp -implicitDefEqProofs [z1, z2, z3, z4, z5, z6, z7, z8, g27] <;> rfl) (by simp -implicitDefEqProofs [z1, z2, z3, z4, z5, z6, z7, z8, g27] <;> rfl) call_28 (by simp) (r2) (by rfl) (by simp -implicitDefEqProofs [z1, z2, z3, z4, z5, z6, z7, z8, g27] <;> rfl) ?_
        refine WpO.run tabOk 3 (by simp -implicitDefEqProofs [z1, z2, z3, z4, z5, z6, z7, z8, g27] <;> first | exact ⟨rfl, rfl⟩ | rfl) ?_
        refine WpO.splitB 32 (by simp -implicitDefEqProofs [z1, z2, z3, z4, z5, z6, z7, z8, g27] <;> rfl) (by rfl) (fun g32 => ?_) (fun g32 => ?_)
        · try (exfalso; revert g32; simp; done)
          all_goals
            have g32' := g32; first | simp only [dT, dF] at g32' | try simp at g32'
            refine WpO.run tabOk 5 (by simp -implicitDefEqProofs [z1, z2, z3, z4, z5, z6, z7, z8, g27, g32] <;> first | exact ⟨rfl, rfl⟩ | rfl) ?_
            refine WpO.nil ?_
            refine ⟨rfl, Gh.only 23 16 ?_ (by first | rfl | simp -implicitDefEqProofs [z1, z2, z3, z4, z5, z6, z7, z8, g27, g32]) (by rfl)⟩
            simp -implicitDefEqProofs [z1, z2, z3, z4, z5, z6, z7, z8, g27, g32, g27', g32']
        · try (exfalso; revert g32; simp; done)
          all_goals
            have g32' := g32; first | simp only [dT, dF] at g32' | try simp at g32'
            refine WpO.run tabOk 1 (by simp -implicitDefEqProofs [z1, z2, z3, z4, z5, z6, z7, z8, g27, g32] <;> first | exact ⟨rfl, rfl⟩ | rfl) ?_
            refine WpO.data (by simp) rfl (by simp -implicitDefEqProofs [z1, z2, z3, z4, z5, z6, z7, z8, g27, g32] <;> rfl) (by simp -implicitDefEqProofs [z1, z2, z3, z4, z5, z6, z7, z8, g27, g32] <;> rfl) (by simp -implicitDefEqProofs [z1, z2, z3, z4, z5, z6, z7, z8, g27, g32] <;> rfl) call_28 (by simp) (r3) (by rfl) (by simp -implicitDefEqProofs [z1, z2, z3, z4, z5, z6, z7, z8, g27, g32] <;> rfl) ?_
            refine WpO.run tabOk 3 (by simp -implicitDefEqProofs [z1, z2, z3, z4, z5, z6, z7, z8, g27, g32] <;> first | exact ⟨rfl, rfl⟩ | rfl) ?_
            refine WpO.nil ?_
            refine ⟨rfl, Gh.only 23 16 ?_ (by first | rfl | simp -implicitDefEqProofs [z1, z2, z3, z4, z5, z6, z7, z8, g27, g32]) (by rfl)⟩
            simp -implicitDefEqProofs [z1, z2, z3, z4, z5, z6, z7, z8, g27, g32, g27', g32']
  refine WpC.condF (by simp -implicitDefEqProofs [z1, z2, z3, z4, z5, z6, z7, z8] <;> rfl) ?_
  refine WpC.seq (WpC.ops tabOk (r := []) (by simp -implicitDefEqProofs [z1, z2, z3, z4, z5, z6, z7, z8] <;> rfl) rfl ?_)
  refine WpC.condF (by simp -implicitDefEqProofs [z1, z2, z3, z4, z5, z6, z7, z8] <;> rfl) ?_
  refine WpC.skip ?_
  refine WpC.seq ?_
  refine WpC.region ?_
  refine WpO.run tabOk 1 (by simp -implicitDefEqProofs [z1, z2, z3, z4, z5, z6, z7, z8] <;> first | exact ⟨rfl, rfl⟩ | rfl) ?_
  refine WpO.data (by simp) rfl (by simp -implicitDefEqProofs [z1, z2, z3, z4, z5, z6, z7, z8] <;> rfl) (by simp -implicitDefEqProofs [z1, z2, z3, z4, z5, z6, z7, z8] <;> rfl) (by simp -implicitDefEqProofs [z1, z2, z3, z4, z5, z6, z7, z8] <;> rfl) call_30 (by simp) (s1) (by rfl) (by simp -implicitDefEqProofs [z1, z2, z3, z4, z5, z6, z7, z8] <;> rfl) ?_
  refine WpO.run tabOk 1 (by simp -implicitDefEqProofs [z1, z2, z3, z4, z5, z6, z7, z8] <;> first | exact ⟨rfl, rfl⟩ | rfl) ?_
  refine WpO.data (by simp) rfl (by simp -implicitDefEqProofs [z1, z2, z3, z4, z5, z6, z7, z8] <;> rfl) (by simp -implicitDefEqProofs [z1, z2, z3, z4, z5, z6, z7, z8] <;> rfl) (by simp -implicitDefEqProofs [z1, z2, z3, z4, z5, z6, z7, z8] <;> rfl) call_30 (by simp) (s2) (by rfl) (by simp -implicitDefEqProofs [z1, z2, z3, z4, z5, z6, z7, z8] <;> rfl) ?_
  refine WpO.data (by simp) rfl (by simp -implicitDefEqProofs [z1, z2, z3, z4, z5, z6, z7, z8] <;> rfl) (by simp -implicitDefEqProofs [z1, z2, z3, z4, z5, z6, z7, z8] <;> rfl) (by simp -implicitDefEqProofs [z1, z2, z3, z4, z5, z6, z7, z8] <;> rfl) call_29 (by simp) (hm) (by rfl) (by simp -implicitDefEqProofs [z1, z2, z3, z4, z5, z6, z7, z8] <;> rfl) ?_
  refine WpO.run tabOk 5 (by simp -implicitDefEqProofs [z1, z2, z3, z4, z5, z6, z7, z8] <;> first | exact ⟨rfl, rfl⟩ | rfl) ?_
  refine WpO.nil ?_
  refine WpC.seq ?_
  refine WpC.region ?_
  refine WpO.run tabOk 1 (by simp -implicitDefEqProofs [z1, z2, z3, z4, z5, z6, z7, z8] <;> first | exact ⟨rfl, rfl⟩ | rfl) ?_
  refine WpO.data (by simp) rfl (by simp -implicitDefEqProofs [z1, z2, z3, z4, z5, z6, z7, z8] <;> rfl) (by simp -implicitDefEqProofs [z1, z2, z3, z4, z5, z6, z7, z8] <;> rfl) (by simp -implicitDefEqProofs [z1, z2, z3, z4, z5, z6, z7, z8] <;> rfl) call_30 (by simp) (s3) (by rfl) (by simp -implicitDefEqProofs [z1, z2, z3, z4, z5, z6, z7, z8] <;> rfl) ?_
  refine WpO.run tabOk 1 (by simp -implicitDefEqProofs [z1, z2, z3, z4, z5, z6, z7, z8] <;> first | exact ⟨rfl, rfl⟩ | rfl) ?_
  refine WpO.nil ?_
  refine WpC.seq ?_
  refine WpC.seq (WpC.ops tabOk (r := []) (by simp -implicitDefEqProofs [z1, z2, z3, z4, z5, z6, z7, z8] <;> rfl) rfl ?_)
  refine WpC.condF (by simp -implicitDefEqProofs [z1, z2, z3, z4, z5, z6, z7, z8] <;> rfl) ?_
  refine WpC.skip ?_
  refine WpC.seq ?_
  refine WpC.region ?_
  refine WpO.run tabOk 3 (by simp -implicitDefEqProofs [z1, z2, z3, z4, z5, z6, z7, z8] <;> first | exact ⟨rfl, rfl⟩ | rfl) ?_
  refine WpO.data (by simp) rfl (by simp -implicitDefEqProofs [z1, z2, z3, z4, z5, z6, z7, z8] <;> rfl) (by simp -implicitDefEqProofs [z1, z2, z3, z4, z5, z6, z7, z8] <;> rfl) (by simp -implicitDefEqProofs [z1, z2, z3, z4, z5, z6, z7, z8] <;> rfl) call_31 (by simp) (hd) (by rfl) (by simp -implicitDefEqProofs [z1, z2, z3, z4, z5, z6, z7, z8] <;> rfl) ?_
  refine WpO.run tabOk 5 (by simp -implicitDefEqProofs [z1, z2, z3, z4, z5, z6, z7, z8] <;> first | exact ⟨rfl, rfl⟩ | rfl) ?_
  refine WpO.nil ?_
  refine WpC.seq ?_
  refine WpC.seq ?_
  refine WpC.val 68 (.d (.bool (false))) ?_ ?_
  · refine WpC.region ?_
    refine WpO.run tabOk 3 (by simp -implicitDefEqProofs [z1, z2, z3, z4, z5, z6, z7, z8] <;> first | exact ⟨rfl, rfl⟩ | rfl) ?_
    refine WpO.splitB 62 (by simp -implicitDefEqProofs [z1, z2, z3, z4, z5, z6, z7, z8] <;> rfl) (by rfl) (fun g62 => ?_) (fun g62 => ?_)
    · try (exfalso; revert g62; simp; done)
      all_goals
        have g62' := g62; first | simp only [dT, dF] at g62' | try simp at g62'
        refine WpO.run tabOk 4 (by simp -implicitDefEqProofs [z1, z2, z3, z4, z5, z6, z7, z8, g62] <;> first | exact ⟨rfl, rfl⟩ | rfl) ?_
        refine WpO.data (by simp) rfl (by simp -implicitDefEqProofs [z1, z2, z3, z4, z5, z6, z7, z8, g62] <;> rfl) (by simp -implicitDefEqProofs [z1, z2, z3, z4, z5, z6, z7, z8, g62] <;> rfl) (by simp -implicitDefEqProofs [z1, z2, z3, z4, z5, z6, z7, z8, g62] <;> rfl) call_32 (by simp) (up0_ok q r c) (by rfl) (by simp -implicitDefEqProofs [z1, z2, z3, z4, z5, z6, z7, z8, g62] <;> rfl) ?_
        refine WpO.run tabOk 1 (by simp -implicitDefEqProofs [z1, z2, z3, z4, z5, z6, z7, z8, g62] <;> first | exact ⟨rfl, rfl⟩ | rfl) ?_
        refine WpO.nil ?_
        refine ⟨rfl, Gh.only 68 10 ?_ (by first | rfl | simp -implicitDefEqProofs [z1, z2, z3, z4, z5, z6, z7, z8, g62]) (by rfl)⟩
        simp -implicitDefEqProofs [z1, z2, z3, z4, z5, z6, z7, z8, g62, g62']
    · try (exfalso; revert g62; simp; done)
      all_goals
        have g62' := g62; first | simp only [dT, dF] at g62' | try simp at g62'
        refine WpO.run tabOk 6 (by simp -implicitDefEqProofs [z1, z2, z3, z4, z5, z6, z7, z8, g62] <;> first | exact ⟨rfl, rfl⟩ | rfl) ?_
        refine WpO.nil ?_
        refine ⟨rfl, Gh.only 68 10 ?_ (by first | rfl | simp -implicitDefEqProofs [z1, z2, z3, z4, z5, z6, z7, z8, g62]) (by rfl)⟩
        simp -implicitDefEqProofs [z1, z2, z3, z4, z5, z6, z7, z8, g62, g62']
  refine WpC.condF (by simp -implicitDefEqProofs [z1, z2, z3, z4, z5, z6, z7, z8] <;> rfl) ?_
  refine WpC.skip ?_
  refine WpC.seq ?_
  refine WpC.seq (WpC.ops tabOk (r := []) (by simp -implicitDefEqProofs [z1, z2, z3, z4, z5, z6, z7, z8] <;> rfl) rfl ?_)
  refine WpC.condF (by simp -implicitDefEqProofs [z1, z2, z3, z4, z5, z6, z7, z8] <;> rfl) ?_
  refine WpC.skip ?_
  refine WpC.seq (WpC.ops tabOk (r := []) (by simp -implicitDefEqProofs [z1, z2, z3, z4, z5, z6, z7, z8] <;> rfl) rfl ?_)
  refine WpC.seq ?_
  refine WpC.seq (WpC.ops tabOk (r := []) (by simp -implicitDefEqProofs [z1, z2, z3, z4, z5, z6, z7, z8] <;> rfl) rfl ?_)
  refine WpC.condF (by simp -implicitDefEqProofs [z1, z2, z3, z4, z5, z6, z7, z8] <;> rfl) ?_
  refine WpC.skip ?_
  refine WpC.seq (WpC.ops tabOk (r := []) (by simp -implicitDefEqProofs [z1, z2, z3, z4, z5, z6, z7, z8] <;> rfl) rfl ?_)
  refine WpC.ret ?_
  try simp only [blockQ, seqQ]
  refine retD_i (by simp -implicitDefEqProofs [z1, z2, z3, z4, z5, z6, z7, z8] <;> rfl) (by simp -implicitDefEqProofs [z1, z2, z3, z4, z5, z6, z7, z8] <;> rfl) ?_
  simp -implicitDefEqProofs [z1, z2, z3, z4, z5, z6, z7, z8]

def cmpI (x y : Int) : Int := if x < y then -1 else if x = y then 0 else 1
theorem larger_ok (x y : Nat) : Gives Try.prog 48 [.d (.int .u64 (x / 18446744073709551616 : Nat)), .d (.int .u64 (x % 18446744073709551616 : Nat)), .d (.int .u64 (y / 18446744073709551616 : Nat)), .d (.int .u64 (y % 18446744073709551616 : Nat))] (.d (dI (cmpI x y))) := by
  obtain ⟨h1, e1⟩ : ∃ q, x / 18446744073709551616 = q := ⟨_, rfl⟩
  obtain ⟨l1, e2⟩ : ∃ q, x % 18446744073709551616 = q := ⟨_, rfl⟩
  obtain ⟨h2, e3⟩ : ∃ q, y / 18446744073709551616 = q := ⟨_, rfl⟩
  obtain ⟨l2, e4⟩ : ∃ q, y % 18446744073709551616 = q := ⟨_, rfl⟩
  rw [e1, e2, e3, e4]
  refine Gives.enter tabOk Try.func48 rfl (by show 4 ≤ 32; decide) ?_
  simp only [Try.f48]
  refine WpC.seq (WpC.ops tabOk (r := []) (by simp -implicitDefEqProofs <;> rfl) rfl ?_)
  refine WpC.seq ?_
  refine WpC.block ?_
  refine WpC.seq ?_
  refine WpC.val 9 (.d (.bool (decide (h2 < h1 ∨ (h1 = h2 ∧ l2 < l1))))) ?_ ?_
  · refine WpC.region ?_
    refine WpO.run tabOk 4 (by simp -implicitDefEqProofs <;> first | exact ⟨rfl, rfl⟩ | rfl) ?_
    refine WpO.splitB 13 (by simp -implicitDefEqProofs <;> rfl) (by rfl) (fun g13 => ?_) (fun g13 => ?_)
    · try (exfalso; revert g13; simp; done)
      all_goals
        have g13' := g13; first | simp only [dT, dF] at g13' | try simp at g13'
        refine WpO.run tabOk 10 (by simp -implicitDefEqProofs [g13] <;> first | exact ⟨rfl, rfl⟩ | rfl) ?_
        refine WpO.nil ?_
        refine ⟨rfl, Gh.only 9 15 ?_ (by first | rfl | simp -implicitDefEqProofs [g13]) (by rfl)⟩
        simp -implicitDefEqProofs [g13, g13'] <;> omega
    · try (exfalso; revert g13; simp; done)
      all_goals
        have g13' := g13; first | simp only [dT, dF] at g13' | try simp at g13'
        refine WpO.run tabOk 4 (by simp -implicitDefEqProofs [g13] <;> first | exact ⟨rfl, rfl⟩ | rfl) ?_
        refine WpO.splitB 17 (by simp -implicitDefEqProofs [g13] <;> rfl) (by rfl) (fun g17 => ?_) (fun g17 => ?_)
        · try (exfalso; revert g17; simp; done)
          all_goals
            have g17' := g17; first | simp only [dT, dF] at g17' | try simp at g17'
            refine WpO.run tabOk 6 (by simp -implicitDefEqProofs [g13, g17] <;> first | exact ⟨rfl, rfl⟩ | rfl) ?_
            refine WpO.nil ?_
            refine ⟨rfl, Gh.only 9 16 ?_ (by first | rfl | simp -implicitDefEqProofs [g13, g17]) (by rfl)⟩
            simp -implicitDefEqProofs [g13, g17, g13', g17'] <;> omega
        · try (exfalso; revert g17; simp; done)
          all_goals
            have g17' := g17; first | simp only [dT, dF] at g17' | try simp at g17'
            refine WpO.run tabOk 6 (by simp -implicitDefEqProofs [g13, g17] <;> first | exact ⟨rfl, rfl⟩ | rfl) ?_
            refine WpO.nil ?_
            refine ⟨rfl, Gh.only 9 16 ?_ (by first | rfl | simp -implicitDefEqProofs [g13, g17]) (by rfl)⟩
            simp -implicitDefEqProofs [g13, g17, g13', g17'] <;> omega
  refine WpC.condD (h2 < h1 ∨ (h1 = h2 ∧ l2 < l1)) (by simp -implicitDefEqProofs) (fun d9 => ?_) (fun d9 => ?_)
  · refine WpC.seq (WpC.ops tabOk (r := []) (by simp -implicitDefEqProofs [d9] <;> rfl) rfl ?_)
    refine WpC.ret ?_
    try simp only [blockQ, seqQ]
    refine retD_i (by simp -implicitDefEqProofs [d9] <;> rfl) (by simp -implicitDefEqProofs [d9] <;> rfl) ?_
    rw [show cmpI x y = 1 from by unfold cmpI; rw [if_neg (by omega), if_neg (by omega)]]; simp
  · refine WpC.seq ?_
    refine WpC.val 23 (.d (.bool (decide ((h1 : Int) = h2 ∧ (l1 : Int) = l2)))) ?_ ?_
    · refine WpC.region ?_
      refine WpO.run tabOk 4 (by simp -implicitDefEqProofs [d9] <;> first | exact ⟨rfl, rfl⟩ | rfl) ?_
      refine WpO.splitB 27 (by simp -implicitDefEqProofs [d9] <;> rfl) (by rfl) (fun g27 => ?_) (fun g27 => ?_)
      · try (exfalso; revert g27; simp; done)
        all_goals
          have g27' := g27; first | simp only [dT, dF] at g27' | try simp at g27'
          refine WpO.run tabOk 5 (by simp -implicitDefEqProofs [d9, g27] <;> first | exact ⟨rfl, rfl⟩ | rfl) ?_
          refine WpO.nil ?_
          refine ⟨rfl, Gh.only 23 10 ?_ (by first | rfl | simp -implicitDefEqProofs [d9, g27]) (by rfl)⟩
          simp -implicitDefEqProofs [d9, g27, g27'] <;> omega
      · try (exfalso; revert g27; simp; done)
        all_goals
          have g27' := g27; first | simp only [dT, dF] at g27' | try simp at g27'
          refine WpO.run tabOk 5 (by simp -implicitDefEqProofs [d9, g27] <;> first | exact ⟨rfl, rfl⟩ | rfl) ?_
          refine WpO.nil ?_
          refine ⟨rfl, Gh.only 23 10 ?_ (by first | rfl | simp -implicitDefEqProofs [d9, g27]) (by rfl)⟩
          simp -implicitDefEqProofs [d9, g27, g27'] <;> omega
    refine WpC.condD ((h1 : Int) = h2 ∧ (l1 : Int) = l2) (by simp -implicitDefEqProofs [d9]) (fun d23 => ?_) (fun d23 => ?_)
    · refine WpC.seq (WpC.ops tabOk (r := []) (by simp -implicitDefEqProofs [d9, d23] <;> rfl) rfl ?_)
      refine WpC.ret ?_
      try simp only [blockQ, seqQ]
      refine retD_i (by simp -implicitDefEqProofs [d9, d23] <;> rfl) (by simp -implicitDefEqProofs [d9, d23] <;> rfl) ?_
      rw [show cmpI x y = 0 from by unfold cmpI; rw [if_neg (by omega), if_pos (by omega)]]; simp
    · refine WpC.skip ?_
      refine WpC.seq (WpC.ops tabOk (r := []) (by simp -implicitDefEqProofs [d9, d23] <;> rfl) rfl ?_)
      refine WpC.ret ?_
      try simp only [blockQ, seqQ]
      refine retD_i (by simp -implicitDefEqProofs [d9, d23] <;> rfl) (by simp -implicitDefEqProofs [d9, d23] <;> rfl) ?_
      rw [show cmpI x y = -1 from by unfold cmpI; rw [if_pos (by omega)]]; simp

def inA (n : Int) : Prop := -9223372036854775807 ≤ n ∧ n ≤ 9223372036854775807
theorem product_ok (a b : Int) (ha : inA a) (hb : inA b) : Gives Try.prog 47 [.d (dI a), .d (dI b)] (.tup [.d (.bool (decide (a * b < 0))), .d (.int .u64 ((a * b).natAbs / 18446744073709551616 : Nat)), .d (.int .u64 ((a * b).natAbs % 18446744073709551616 : Nat))]) := by
  have s1 := size_ok a (by unfold inA at ha; omega)
  have s2 := size_ok b (by unfold inA at hb; omega)
  have hm := mul64_ok a.natAbs b.natAbs (by unfold inA at ha; omega) (by unfold inA at hb; omega)
  rw [← Int.natAbs_mul] at hm
  have hneg : a * b < 0 ↔ (a < 0 ∧ 0 < b) ∨ (0 < a ∧ b < 0) := by
    have q1 : a < 0 → b < 0 → 0 < a * b := fun h1 h2 => Int.mul_pos_of_neg_of_neg h1 h2
    have q2 : a < 0 → 0 < b → a * b < 0 := fun h1 h2 => Int.mul_neg_of_neg_of_pos h1 h2
    have q3 : 0 < a → b < 0 → a * b < 0 := fun h1 h2 => Int.mul_neg_of_pos_of_neg h1 h2
    have q4 : 0 < a → 0 < b → 0 < a * b := fun h1 h2 => Int.mul_pos h1 h2
    have q5 : a = 0 → a * b = 0 := fun h => by rw [h, Int.zero_mul]
    have q6 : b = 0 → a * b = 0 := fun h => by rw [h, Int.mul_zero]
    generalize a * b = p at *
    omega
  have hzero : a * b = 0 ↔ a = 0 ∨ b = 0 := Int.mul_eq_zero
  obtain ⟨p, hp⟩ : ∃ p, a * b = p := ⟨_, rfl⟩
  rw [hp] at hm hneg hzero ⊢
  obtain ⟨h, e1⟩ : ∃ q, p.natAbs / 18446744073709551616 = q := ⟨_, rfl⟩
  obtain ⟨l, e2⟩ : ∃ q, p.natAbs % 18446744073709551616 = q := ⟨_, rfl⟩
  have hz : (0 < h ∨ 0 < l) ↔ p ≠ 0 := by omega
  rw [e1, e2] at hm ⊢
  clear e1 e2
  refine Gives.enter tabOk Try.func47 rfl (by show 2 ≤ 32; decide) ?_
  simp only [Try.f47]
  refine WpC.seq (WpC.ops tabOk (r := []) (by simp -implicitDefEqProofs <;> rfl) rfl ?_)
  refine WpC.seq ?_
  refine WpC.region ?_
  refine WpO.run tabOk 1 (by simp -implicitDefEqProofs <;> first | exact ⟨rfl, rfl⟩ | rfl) ?_
  refine WpO.data (by simp) rfl (by simp -implicitDefEqProofs <;> rfl) (by simp -implicitDefEqProofs <;> rfl) (by simp -implicitDefEqProofs <;> rfl) call_30 (by simp) (s1) (by rfl) (by simp -implicitDefEqProofs <;> rfl) ?_
  refine WpO.run tabOk 1 (by simp -implicitDefEqProofs <;> first | exact ⟨rfl, rfl⟩ | rfl) ?_
  refine WpO.data (by simp) rfl (by simp -implicitDefEqProofs <;> rfl) (by simp -implicitDefEqProofs <;> rfl) (by simp -implicitDefEqProofs <;> rfl) call_30 (by simp) (s2) (by rfl) (by simp -implicitDefEqProofs <;> rfl) ?_
  refine WpO.data (by simp) rfl (by simp -implicitDefEqProofs <;> rfl) (by simp -implicitDefEqProofs <;> rfl) (by simp -implicitDefEqProofs <;> rfl) call_29 (by simp) (hm) (by rfl) (by simp -implicitDefEqProofs <;> rfl) ?_
  refine WpO.run tabOk 5 (by simp -implicitDefEqProofs <;> first | exact ⟨rfl, rfl⟩ | rfl) ?_
  refine WpO.nil ?_
  refine WpC.seq ?_
  refine WpC.region ?_
  refine WpO.run tabOk 6 (by simp -implicitDefEqProofs <;> first | exact ⟨rfl, rfl⟩ | rfl) ?_
  refine WpO.splitB 22 (by simp -implicitDefEqProofs <;> rfl) (by rfl) (fun g22 => ?_) (fun g22 => ?_)
  · have g22' := g22; first | simp only [dT, dF] at g22' | try simp at g22'
    refine WpO.run tabOk 3 (by simp -implicitDefEqProofs [g22] <;> first | exact ⟨rfl, rfl⟩ | rfl) ?_
    refine WpO.splitB 25 (by simp -implicitDefEqProofs [g22] <;> rfl) (by rfl) (fun g25 => ?_) (fun g25 => ?_)
    · have g25' := g25; first | simp only [dT, dF] at g25' | try simp at g25'
      refine WpO.run tabOk 9 (by simp -implicitDefEqProofs [g22, g25] <;> first | exact ⟨rfl, rfl⟩ | rfl) ?_
      refine WpO.nil ?_
      refine WpC.ret ?_
      try simp only [blockQ, seqQ]
      refine retD_i (by simp -implicitDefEqProofs [g22, g25] <;> rfl) (by simp -implicitDefEqProofs [g22, g25] <;> rfl) ?_
      simp -implicitDefEqProofs only [pack, leR, FV.le]; first | omega | (simp; omega) | simp
    · have g25' := g25; first | simp only [dT, dF] at g25' | try simp at g25'
      refine WpO.run tabOk 9 (by simp -implicitDefEqProofs [g22, g25] <;> first | exact ⟨rfl, rfl⟩ | rfl) ?_
      refine WpO.nil ?_
      refine WpC.ret ?_
      try simp only [blockQ, seqQ]
      refine retD_i (by simp -implicitDefEqProofs [g22, g25] <;> rfl) (by simp -implicitDefEqProofs [g22, g25] <;> rfl) ?_
      simp -implicitDefEqProofs only [pack, leR, FV.le]; first | omega | (simp; omega) | simp
  · have g22' := g22; first | simp only [dT, dF] at g22' | try simp at g22'
    refine WpO.run tabOk 12 (by simp -implicitDefEqProofs [g22] <;> first | exact ⟨rfl, rfl⟩ | rfl) ?_
    refine WpO.nil ?_
    refine WpC.ret ?_
    try simp only [blockQ, seqQ]
    refine retD_i (by simp -implicitDefEqProofs [g22] <;> rfl) (by simp -implicitDefEqProofs [g22] <;> rfl) ?_
    simp -implicitDefEqProofs only [pack, leR, FV.le]; first | omega | (simp; omega) | simp
end Go.Proofs.Ytfbpcjkhgiickaa.Pay
