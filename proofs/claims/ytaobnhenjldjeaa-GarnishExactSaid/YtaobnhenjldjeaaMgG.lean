/- The texts SpD, SpE, SpJ, SpK, one behind the other. No statement of the seed is proved here. -/
import Derived.Test.YtaobnhenjldjeaaMgF
/- slices' symMerge: the walk. No statement of the seed is proved here. -/
namespace Go.Proofs.Ytaobnhenjldjeaa.Pay
open Go Go.RowKit
set_option linter.unusedVariables false
set_option linter.unusedSimpArgs false

theorem ltNot (x : Int) : decide (x < 0) = !decide (0 ≤ x) := by by_cases h : x < 0 <;> simp [h] <;> omega
section
variable (cT cS : Int) (cW cP : List D) {c : Int → Int → Int} {ok : Int → Prop} (hcm : Cmp c ok)
  (hcc : ∀ x y, ok x → ok y → Gives Try.prog 34 [.d (dI x), .d (dI y), .dp [dI cT], .dp [dI cS], .dp [.list 1 cW], .dp [.list 1 cP]] (.d (dI (c x y))))
include hcm hcc
set_option maxHeartbeats 40000000 in
theorem symMerge_ok (n : Nat) (hn : n ≤ 1000000) : ∀ (d : Nat) (g : Nat → Int) (a m b : Nat), b - a ≤ d → a < m → m < b → b ≤ n → AllOk ok g n → Srtd c g a m → Srtd c g m b →
    WpF Try.prog 72 [.sl 0 n, .d (dI a), .d (dI m), .d (dI b), .fn 34 [.dp [dI cT], .dp [dI cS], .dp [.list 1 cW], .dp [.list 1 cP]]] [.arr 3 1 (rowF g n)]
      fun r S => ∃ h, r = .tup [] ∧ S = [.arr 3 1 (rowF h n)] ∧ Mv a b g h ∧ Srtd c h a b := by
  intro d
  induction d with
  | zero => intro g a m b h0 h1 h2; omega
  | succ d ih =>
  intro g a m b hd ham hmb hbn hok hs1 hs2
  have han : a < n := by omega
  have hmn : m < n := by omega
  obtain ⟨x0, hx0⟩ : ∃ x : Int, IntKind.i64.wrap ((m : Int) - a) = x := ⟨_, rfl⟩
  have hx0' : x0 = (m : Int) - a := by rw [← hx0]; exact wrapI (by omega) (by omega)
  obtain ⟨y0, hy0⟩ : ∃ x : Int, IntKind.i64.wrap ((b : Int) - m) = x := ⟨_, rfl⟩
  have hy0' : y0 = (b : Int) - m := by rw [← hy0]; exact wrapI (by omega) (by omega)
  have hz1 := shl_zero g a
  have hz2 := shrf_zero g m
  refine WpF.enter tabOk Try.func72 rfl (by show 5 ≤ 220; decide) ?_
  simp only [Try.f72]
  refine WpC.seq ?_
  refine WpC.seq (WpC.ops tabOk (r := []) (by simp -implicitDefEqProofs [ltNot, han, hmn, hx0, hy0, hz1, hz2] <;> rfl) rfl ?_)
  refine WpC.condD (x0 = 1) (by simp -implicitDefEqProofs [ltNot, han, hmn, hx0, hy0, hz1, hz2]) (fun d28 => ?_) (fun d28 => ?_)
  · refine WpC.seq (WpC.ops tabOk (r := []) (by simp -implicitDefEqProofs [ltNot, han, hmn, hx0, hy0, hz1, hz2, d28] <;> rfl) rfl ?_)
    refine WpC.seq (WpC.ops tabOk (r := []) (by simp -implicitDefEqProofs [ltNot, han, hmn, hx0, hy0, hz1, hz2, d28] <;> rfl) rfl ?_)
    refine WpC.seq ?_
    refine WpC.block ?_
    refine WpC.loopM [0, 1, 4] [10, 11] (fun x => x.2 - x.1) ((m, b) : Nat × Nat) (fun x => [(10, .d (dI (x.1 : Nat))), (11, .d (dI (x.2 : Nat)))]) (fun x => [.arr 3 1 (rowF g n)]) (fun x => m ≤ x.1 ∧ x.1 ≤ x.2 ∧ x.2 ≤ b ∧ (∀ k, m ≤ k → k < x.1 → c (g k) (g a) < 0) ∧ (∀ k, x.2 ≤ k → k < b → ¬ c (g k) (g a) < 0)) (by simp -implicitDefEqProofs [ltNot, han, hmn, hx0, hy0, hz1, hz2, d28] <;> rfl) (Gh.cut' [10, 11, 0, 1, 4] 1 (by simp -implicitDefEqProofs [ltNot, han, hmn, hx0, hy0, hz1, hz2, d28]) (by simp -implicitDefEqProofs [ltNot, han, hmn, hx0, hy0, hz1, hz2, d28]) rfl (by simp) (by simp) (by simp)) (⟨by simp, by simp; omega, by simp, fun k h1 h2 => by simp at h2; omega, fun k h1 h2 => by simp at h1; omega⟩) ?_
    rintro x hi
    simp only [List.cons_append, List.nil_append]
    obtain ⟨i, j⟩ := x
    obtain ⟨q1, q2, q3, q4, q5⟩ := hi
    simp only at q1 q2 q3 q4 q5 ⊢
    refine WpC.seq ?_
    refine WpC.seq (WpC.ops tabOk (r := []) (by simp -implicitDefEqProofs [ltNot, han, hmn, hx0, hy0, hz1, hz2, d28] <;> rfl) rfl ?_)
    refine WpC.condR (by simp -implicitDefEqProofs [ltNot, han, hmn, hx0, hy0, hz1, hz2, d28] <;> rfl) (by rfl) (fun c33 => ?_) (fun c33 => ?_)
    · have c33' := c33; first | simp only [dT, dF] at c33' | try simp at c33'
      refine WpC.skip ?_
      refine WpC.block ?_
      have hij : i < j := by simpa using c33
      obtain ⟨h, hh⟩ : ∃ h, (i + j) / 2 = h := ⟨_, rfl⟩
      have hsh := shr1 hh (by omega)
      have hhn : h < n := by omega
      have hw : IntKind.i64.wrap ((h : Int) + 1) = ((h + 1 : Nat) : Int) := by rw [wrapI (by omega) (by omega)]; omega
      refine WpC.seq (WpC.ops tabOk (r := []) (by simp -implicitDefEqProofs [ltNot, han, hmn, hx0, hy0, hz1, hz2, d28, c33, hsh, hhn, hw] <;> rfl) rfl ?_)
      refine WpC.seq ?_
      refine WpC.drawn tabOk (by kernel_rfl) 0 (by simp) ?_
      refine DrO.run (fz := []) 3 (by simp -implicitDefEqProofs [ltNot, han, hmn, hx0, hy0, hz1, hz2, d28, c33, hsh, hhn, hw] <;> first | exact ⟨rfl, rfl, rfl, rfl⟩ | rfl) ?_
      refine DrO.run (fz := []) 3 (by simp -implicitDefEqProofs [ltNot, han, hmn, hx0, hy0, hz1, hz2, d28, c33, hsh, hhn, hw] <;> first | exact ⟨rfl, rfl, rfl, rfl⟩ | rfl) ?_
      refine DrO.run (fz := []) 3 (by simp -implicitDefEqProofs [ltNot, han, hmn, hx0, hy0, hz1, hz2, d28, c33, hsh, hhn, hw] <;> first | exact ⟨rfl, rfl, rfl, rfl⟩ | rfl) ?_
      refine DrO.data (by simp) rfl (by simp -implicitDefEqProofs [ltNot, han, hmn, hx0, hy0, hz1, hz2, d28, c33, hsh, hhn, hw] <;> rfl) (by simp -implicitDefEqProofs [ltNot, han, hmn, hx0, hy0, hz1, hz2, d28, c33, hsh, hhn, hw] <;> rfl) (by simp -implicitDefEqProofs [ltNot, han, hmn, hx0, hy0, hz1, hz2, d28, c33, hsh, hhn, hw] <;> rfl) call_34 (hcc (g h) (g a) (hok h hhn) (hok a han)) (by rfl) (by simp -implicitDefEqProofs [ltNot, han, hmn, hx0, hy0, hz1, hz2, d28, c33, hsh, hhn, hw] <;> rfl) ?_
      refine DrO.run (fz := []) 1 (by simp -implicitDefEqProofs [ltNot, han, hmn, hx0, hy0, hz1, hz2, d28, c33, hsh, hhn, hw] <;> first | exact ⟨rfl, rfl, rfl, rfl⟩ | rfl) ?_
      refine DrO.nil ⟨by kernel_rfl, ?_⟩
      refine WpC.condD (c (g h) (g a) < 0) (by simp -implicitDefEqProofs [ltNot, han, hmn, hx0, hy0, hz1, hz2, d28, c33, hsh, hhn, hw]) (fun d50 => ?_) (fun d50 => ?_)
      · refine WpC.ops tabOk (r := []) (by simp -implicitDefEqProofs [ltNot, han, hmn, hx0, hy0, hz1, hz2, d28, c33, hsh, hhn, hw, d50] <;> rfl) rfl ?_
        exact ⟨(h + 1, j), ⟨by simp; omega, by simp; omega, q3, fun k k1 k2 => hcm.lel (hok k (by simp at k2; omega)) (hok h (by omega)) (hok a han) (hs2.le hcm hok hbn (by omega) (by simp at k2; omega) (by omega)) d50, q5⟩, by simp; omega, Gh.cut' [10, 11, 0, 1, 4] 1 (by simp -implicitDefEqProofs [ltNot, han, hmn, hx0, hy0, hz1, hz2, d28, c33, hsh, hhn, hw, d50, c33']) (by simp -implicitDefEqProofs [ltNot, han, hmn, hx0, hy0, hz1, hz2, d28, c33, hsh, hhn, hw, d50, c33']) rfl (by simp) (by simp) (by simp)⟩
      · refine WpC.ops tabOk (r := []) (by simp -implicitDefEqProofs [ltNot, han, hmn, hx0, hy0, hz1, hz2, d28, c33, hsh, hhn, hw, d50] <;> rfl) rfl ?_
        exact ⟨(i, h), ⟨q1, by simp; omega, by simp; omega, q4, fun k k1 k2 => hcm.le (hok a han) (hok h (by omega)) (hok k (by omega)) d50 (hs2.le hcm hok hbn (by omega) (by simpa using k1) k2)⟩, by simp; omega, Gh.cut' [10, 11, 0, 1, 4] 1 (by simp -implicitDefEqProofs [ltNot, han, hmn, hx0, hy0, hz1, hz2, d28, c33, hsh, hhn, hw, d50, c33']) (by simp -implicitDefEqProofs [ltNot, han, hmn, hx0, hy0, hz1, hz2, d28, c33, hsh, hhn, hw, d50, c33']) rfl (by simp) (by simp) (by simp)⟩
    · have c33' := c33; first | simp only [dT, dF] at c33' | try simp at c33'
      refine WpC.exit ?_
      refine WpC.seq ?_
      have hij : ¬ i < j := by simpa using c33
      have hie : i = j := by omega
      subst hie
      have ha1 : m = a + 1 := by omega
      subst ha1
      refine WpC.seq (WpC.ops tabOk (r := []) (by simp -implicitDefEqProofs [ltNot, han, hmn, hx0, hy0, hz1, hz2, d28, c33] <;> rfl) rfl ?_)
      refine WpC.block ?_
      refine WpC.loopM [0, 10] [13] (fun x => i - 1 - x) (a : Nat) (fun x => [(13, .d (dI (x : Nat)))]) (fun x => [.arr 3 1 (rowF (shl g a x) n)]) (fun x => a ≤ x ∧ x ≤ i - 1) (by simp -implicitDefEqProofs [ltNot, han, hmn, hx0, hy0, hz1, hz2, d28, c33] <;> rfl) (Gh.cut' [13, 0, 10] 1 (by simp -implicitDefEqProofs [ltNot, han, hmn, hx0, hy0, hz1, hz2, d28, c33]) (by simp -implicitDefEqProofs [ltNot, han, hmn, hx0, hy0, hz1, hz2, d28, c33]) rfl (by simp) (by simp) (by simp)) (⟨by simp, by omega⟩) ?_
      rintro x hi
      simp only [List.cons_append, List.nil_append]
      have hw2 : IntKind.i64.wrap ((i : Int) - 1) = ((i - 1 : Nat) : Int) := by rw [wrapI (by omega) (by omega)]; omega
      obtain ⟨i1, hi1⟩ : ∃ q, i - 1 = q := ⟨_, rfl⟩
      rw [hi1] at hw2
      refine WpC.seq ?_
      refine WpC.seq (WpC.ops tabOk (r := []) (by simp -implicitDefEqProofs [ltNot, han, hmn, hx0, hy0, hz1, hz2, d28, c33, hw2] <;> rfl) rfl ?_)
      refine WpC.condR (by simp -implicitDefEqProofs [ltNot, han, hmn, hx0, hy0, hz1, hz2, d28, c33, hw2] <;> rfl) (by rfl) (fun c58 => ?_) (fun c58 => ?_)
      · have c58' := c58; first | simp only [dT, dF] at c58' | try simp at c58'
        have hxi : x < i1 := by simpa using c58
        obtain ⟨h', hh'⟩ : ∃ h', shl g a x = h' := ⟨_, rfl⟩
        obtain ⟨p, hp⟩ : ∃ p, x + 1 = p := ⟨_, rfl⟩
        have hw3 : IntKind.i64.wrap ((x : Int) + 1) = (p : Int) := by rw [wrapI (by omega) (by omega)]; omega
        have hstp := shl_step g (a := a) (k := x) hi.1
        rw [hh', hp] at hstp
        unfold sw at hstp
        have hxn : x < n := by omega
        have hpn : p < n := by omega
        refine WpC.skip ?_
        refine WpC.seq ?_
        refine WpC.block ?_
        refine WpC.drawn tabOk (by kernel_rfl) 0 (by simp) ?_
        refine DrO.run (fz := []) 3 (by simp -implicitDefEqProofs [ltNot, han, hmn, hx0, hy0, hz1, hz2, d28, c33, hw2, c58, hh', hw3, hxn, hpn] <;> first | exact ⟨rfl, rfl, rfl, rfl⟩ | rfl) ?_
        refine DrO.run (fz := []) 3 (by simp -implicitDefEqProofs [ltNot, han, hmn, hx0, hy0, hz1, hz2, d28, c33, hw2, c58, hh', hw3, hxn, hpn] <;> first | exact ⟨rfl, rfl, rfl, rfl⟩ | rfl) ?_
        refine DrO.run (fz := []) 3 (by simp -implicitDefEqProofs [ltNot, han, hmn, hx0, hy0, hz1, hz2, d28, c33, hw2, c58, hh', hw3, hxn, hpn] <;> first | exact ⟨rfl, rfl, rfl, rfl⟩ | rfl) ?_
        refine DrO.run (fz := []) 3 (by simp -implicitDefEqProofs [ltNot, han, hmn, hx0, hy0, hz1, hz2, d28, c33, hw2, c58, hh', hw3, hxn, hpn] <;> first | exact ⟨rfl, rfl, rfl, rfl⟩ | rfl) ?_
        refine DrO.run (fz := []) 3 (by simp -implicitDefEqProofs [ltNot, han, hmn, hx0, hy0, hz1, hz2, d28, c33, hw2, c58, hh', hw3, hxn, hpn] <;> first | exact ⟨rfl, rfl, rfl, rfl⟩ | rfl) ?_
        refine DrO.run (fz := []) 3 (by simp -implicitDefEqProofs [ltNot, han, hmn, hx0, hy0, hz1, hz2, d28, c33, hw2, c58, hh', hw3, hxn, hpn] <;> first | exact ⟨rfl, rfl, rfl, rfl⟩ | rfl) ?_
        refine DrO.nil ⟨by kernel_rfl, ?_⟩
        refine WpC.ops tabOk (r := []) (by simp -implicitDefEqProofs [ltNot, han, hmn, hx0, hy0, hz1, hz2, d28, c33, hw2, c58, hh', hw3, hxn, hpn] <;> rfl) rfl ?_
        exact ⟨p, ⟨by omega, by omega⟩, by omega, Gh.cut' [13, 0, 10] 1 (by simp -implicitDefEqProofs [ltNot, han, hmn, hx0, hy0, hz1, hz2, d28, c33, hw2, c58, hh', hw3, hxn, hpn, c33', c58', hstp]) (by simp -implicitDefEqProofs [ltNot, han, hmn, hx0, hy0, hz1, hz2, d28, c33, hw2, c58, hh', hw3, hxn, hpn, c33', c58', hstp]) rfl (by simp) (by simp) (by simp)⟩
      · have c58' := c58; first | simp only [dT, dF] at c58' | try simp at c58'
        refine WpC.exit ?_
        refine WpC.ret ?_
        have hxi : x = i - 1 := by simp at c58; omega
        subst hxi
        refine ⟨.inr rfl, [], rfl, ?_, by simp⟩
        exact ⟨shl g a (i - 1), rfl, rfl, shl_mv g (by omega) (by omega), shl_srt hcm hok hbn (by omega) (by omega) hs2 q4 q5⟩
  · refine WpC.skip ?_
    refine WpC.seq ?_
    refine WpC.seq (WpC.ops tabOk (r := []) (by simp -implicitDefEqProofs [ltNot, han, hmn, hx0, hy0, hz1, hz2, d28] <;> rfl) rfl ?_)
    refine WpC.condD (y0 = 1) (by simp -implicitDefEqProofs [ltNot, han, hmn, hx0, hy0, hz1, hz2, d28]) (fun d80 => ?_) (fun d80 => ?_)
    · refine WpC.seq (WpC.ops tabOk (r := []) (by simp -implicitDefEqProofs [ltNot, han, hmn, hx0, hy0, hz1, hz2, d28, d80] <;> rfl) rfl ?_)
      refine WpC.seq (WpC.ops tabOk (r := []) (by simp -implicitDefEqProofs [ltNot, han, hmn, hx0, hy0, hz1, hz2, d28, d80] <;> rfl) rfl ?_)
      refine WpC.seq ?_
      refine WpC.block ?_
      refine WpC.loopM [0, 2, 4] [14, 15] (fun x => x.2 - x.1) ((a, m) : Nat × Nat) (fun x => [(14, .d (dI (x.1 : Nat))), (15, .d (dI (x.2 : Nat)))]) (fun x => [.arr 3 1 (rowF g n)]) (fun x => a ≤ x.1 ∧ x.1 ≤ x.2 ∧ x.2 ≤ m ∧ (∀ k, a ≤ k → k < x.1 → ¬ c (g m) (g k) < 0) ∧ (∀ k, x.2 ≤ k → k < m → c (g m) (g k) < 0)) (by simp -implicitDefEqProofs [ltNot, han, hmn, hx0, hy0, hz1, hz2, d28, d80] <;> rfl) (Gh.cut' [14, 15, 0, 2, 4] 1 (by simp -implicitDefEqProofs [ltNot, han, hmn, hx0, hy0, hz1, hz2, d28, d80]) (by simp -implicitDefEqProofs [ltNot, han, hmn, hx0, hy0, hz1, hz2, d28, d80]) rfl (by simp) (by simp) (by simp)) (⟨by simp, by simp; omega, by simp, fun k h1 h2 => by simp at h2; omega, fun k h1 h2 => by simp at h1; omega⟩) ?_
      rintro x hi
      simp only [List.cons_append, List.nil_append]
      obtain ⟨i, j⟩ := x
      obtain ⟨q1, q2, q3, q4, q5⟩ := hi
      simp only at q1 q2 q3 q4 q5 ⊢
      refine WpC.seq ?_
      refine WpC.seq (WpC.ops tabOk (r := []) (by simp -implicitDefEqProofs [ltNot, han, hmn, hx0, hy0, hz1, hz2, d28, d80] <;> rfl) rfl ?_)
      refine WpC.condR (by simp -implicitDefEqProofs [ltNot, han, hmn, hx0, hy0, hz1, hz2, d28, d80] <;> rfl) (by rfl) (fun c85 => ?_) (fun c85 => ?_)
      · have c85' := c85; first | simp only [dT, dF] at c85' | try simp at c85'
        refine WpC.skip ?_
        refine WpC.block ?_
        have hij : i < j := by simpa using c85
        obtain ⟨h, hh⟩ : ∃ h, (i + j) / 2 = h := ⟨_, rfl⟩
        have hsh := shr1 hh (by omega)
        have hhn : h < n := by omega
        have hw : IntKind.i64.wrap ((h : Int) + 1) = ((h + 1 : Nat) : Int) := by rw [wrapI (by omega) (by omega)]; omega
        refine WpC.seq (WpC.ops tabOk (r := []) (by simp -implicitDefEqProofs [ltNot, han, hmn, hx0, hy0, hz1, hz2, d28, d80, c85, hsh, hhn, hw] <;> rfl) rfl ?_)
        refine WpC.seq ?_
        refine WpC.drawn tabOk (by kernel_rfl) 0 (by simp) ?_
        refine DrO.run (fz := []) 3 (by simp -implicitDefEqProofs [ltNot, han, hmn, hx0, hy0, hz1, hz2, d28, d80, c85, hsh, hhn, hw] <;> first | exact ⟨rfl, rfl, rfl, rfl⟩ | rfl) ?_
        refine DrO.run (fz := []) 3 (by simp -implicitDefEqProofs [ltNot, han, hmn, hx0, hy0, hz1, hz2, d28, d80, c85, hsh, hhn, hw] <;> first | exact ⟨rfl, rfl, rfl, rfl⟩ | rfl) ?_
        refine DrO.run (fz := []) 3 (by simp -implicitDefEqProofs [ltNot, han, hmn, hx0, hy0, hz1, hz2, d28, d80, c85, hsh, hhn, hw] <;> first | exact ⟨rfl, rfl, rfl, rfl⟩ | rfl) ?_
        refine DrO.data (by simp) rfl (by simp -implicitDefEqProofs [ltNot, han, hmn, hx0, hy0, hz1, hz2, d28, d80, c85, hsh, hhn, hw] <;> rfl) (by simp -implicitDefEqProofs [ltNot, han, hmn, hx0, hy0, hz1, hz2, d28, d80, c85, hsh, hhn, hw] <;> rfl) (by simp -implicitDefEqProofs [ltNot, han, hmn, hx0, hy0, hz1, hz2, d28, d80, c85, hsh, hhn, hw] <;> rfl) call_34 (hcc (g m) (g h) (hok m hmn) (hok h hhn)) (by rfl) (by simp -implicitDefEqProofs [ltNot, han, hmn, hx0, hy0, hz1, hz2, d28, d80, c85, hsh, hhn, hw] <;> rfl) ?_
        refine DrO.run (fz := []) 2 (by simp -implicitDefEqProofs [ltNot, han, hmn, hx0, hy0, hz1, hz2, d28, d80, c85, hsh, hhn, hw] <;> first | exact ⟨rfl, rfl, rfl, rfl⟩ | rfl) ?_
        refine DrO.nil ⟨by kernel_rfl, ?_⟩
        refine WpC.condD (0 ≤ c (g m) (g h)) (by simp -implicitDefEqProofs [ltNot, han, hmn, hx0, hy0, hz1, hz2, d28, d80, c85, hsh, hhn, hw]) (fun d103 => ?_) (fun d103 => ?_)
        · refine WpC.ops tabOk (r := []) (by simp -implicitDefEqProofs [ltNot, han, hmn, hx0, hy0, hz1, hz2, d28, d80, c85, hsh, hhn, hw, d103] <;> rfl) rfl ?_
          exact ⟨(h + 1, j), ⟨by simp; omega, by simp; omega, q3, fun k k1 k2 => hcm.le (hok k (by simp at k2; omega)) (hok h (by omega)) (hok m hmn) (hs1.le hcm hok (by omega) (by omega) (by simp at k2; omega) (by omega)) (by omega), q5⟩, by simp; omega, Gh.cut' [14, 15, 0, 2, 4] 1 (by simp -implicitDefEqProofs [ltNot, han, hmn, hx0, hy0, hz1, hz2, d28, d80, c85, hsh, hhn, hw, d103, c85']) (by simp -implicitDefEqProofs [ltNot, han, hmn, hx0, hy0, hz1, hz2, d28, d80, c85, hsh, hhn, hw, d103, c85']) rfl (by simp) (by simp) (by simp)⟩
        · refine WpC.ops tabOk (r := []) (by simp -implicitDefEqProofs [ltNot, han, hmn, hx0, hy0, hz1, hz2, d28, d80, c85, hsh, hhn, hw, d103] <;> rfl) rfl ?_
          exact ⟨(i, h), ⟨q1, by simp; omega, by simp; omega, q4, fun k k1 k2 => hcm.ltl (hok m hmn) (hok h (by omega)) (hok k (by omega)) (by omega) (hs1.le hcm hok (by omega) (by omega) (by simpa using k1) k2)⟩, by simp; omega, Gh.cut' [14, 15, 0, 2, 4] 1 (by simp -implicitDefEqProofs [ltNot, han, hmn, hx0, hy0, hz1, hz2, d28, d80, c85, hsh, hhn, hw, d103, c85']) (by simp -implicitDefEqProofs [ltNot, han, hmn, hx0, hy0, hz1, hz2, d28, d80, c85, hsh, hhn, hw, d103, c85']) rfl (by simp) (by simp) (by simp)⟩
      · have c85' := c85; first | simp only [dT, dF] at c85' | try simp at c85'
        refine WpC.exit ?_
        refine WpC.seq ?_
        have hij : ¬ i < j := by simpa using c85
        have hie : i = j := by omega
        subst hie
        have hb1 : b = m + 1 := by omega
        subst hb1
        refine WpC.seq (WpC.ops tabOk (r := []) (by simp -implicitDefEqProofs [ltNot, han, hmn, hx0, hy0, hz1, hz2, d28, d80, c85] <;> rfl) rfl ?_)
        refine WpC.block ?_
        refine WpC.loopM [0, 14] [17] (fun x => x - i) (m : Nat) (fun x => [(17, .d (dI (x : Nat)))]) (fun x => [.arr 3 1 (rowF (shrf g x m) n)]) (fun x => i ≤ x ∧ x ≤ m) (by simp -implicitDefEqProofs [ltNot, han, hmn, hx0, hy0, hz1, hz2, d28, d80, c85] <;> rfl) (Gh.cut' [17, 0, 14] 1 (by simp -implicitDefEqProofs [ltNot, han, hmn, hx0, hy0, hz1, hz2, d28, d80, c85]) (by simp -implicitDefEqProofs [ltNot, han, hmn, hx0, hy0, hz1, hz2, d28, d80, c85]) rfl (by simp) (by simp) (by simp)) (⟨by omega, by simp⟩) ?_
        rintro x hi
        simp only [List.cons_append, List.nil_append]
        refine WpC.seq ?_
        refine WpC.seq (WpC.ops tabOk (r := []) (by simp -implicitDefEqProofs [ltNot, han, hmn, hx0, hy0, hz1, hz2, d28, d80, c85] <;> rfl) rfl ?_)
        refine WpC.condR (by simp -implicitDefEqProofs [ltNot, han, hmn, hx0, hy0, hz1, hz2, d28, d80, c85] <;> rfl) (by rfl) (fun c110 => ?_) (fun c110 => ?_)
        · have c110' := c110; first | simp only [dT, dF] at c110' | try simp at c110'
          have hxi : i < x := by simpa using c110
          obtain ⟨h', hh'⟩ : ∃ h', shrf g x m = h' := ⟨_, rfl⟩
          obtain ⟨p, hp⟩ : ∃ p, x - 1 = p := ⟨_, rfl⟩
          have hw3 : IntKind.i64.wrap ((x : Int) - 1) = (p : Int) := by rw [wrapI (by omega) (by omega)]; omega
          have hstp := shrf_step g (k := x) (m := m) hp (by omega) hi.2
          rw [hh'] at hstp
          unfold sw at hstp
          have hxn : x < n := by omega
          have hpn : p < n := by omega
          refine WpC.skip ?_
          refine WpC.seq ?_
          refine WpC.block ?_
          refine WpC.drawn tabOk (by kernel_rfl) 0 (by simp) ?_
          refine DrO.run (fz := []) 3 (by simp -implicitDefEqProofs [ltNot, han, hmn, hx0, hy0, hz1, hz2, d28, d80, c85, c110, hh', hw3, hxn, hpn] <;> first | exact ⟨rfl, rfl, rfl, rfl⟩ | rfl) ?_
          refine DrO.run (fz := []) 3 (by simp -implicitDefEqProofs [ltNot, han, hmn, hx0, hy0, hz1, hz2, d28, d80, c85, c110, hh', hw3, hxn, hpn] <;> first | exact ⟨rfl, rfl, rfl, rfl⟩ | rfl) ?_
          refine DrO.run (fz := []) 3 (by simp -implicitDefEqProofs [ltNot, han, hmn, hx0, hy0, hz1, hz2, d28, d80, c85, c110, hh', hw3, hxn, hpn] <;> first | exact ⟨rfl, rfl, rfl, rfl⟩ | rfl) ?_
          refine DrO.run (fz := []) 3 (by simp -implicitDefEqProofs [ltNot, han, hmn, hx0, hy0, hz1, hz2, d28, d80, c85, c110, hh', hw3, hxn, hpn] <;> first | exact ⟨rfl, rfl, rfl, rfl⟩ | rfl) ?_
          refine DrO.run (fz := []) 3 (by simp -implicitDefEqProofs [ltNot, han, hmn, hx0, hy0, hz1, hz2, d28, d80, c85, c110, hh', hw3, hxn, hpn] <;> first | exact ⟨rfl, rfl, rfl, rfl⟩ | rfl) ?_
          refine DrO.run (fz := []) 3 (by simp -implicitDefEqProofs [ltNot, han, hmn, hx0, hy0, hz1, hz2, d28, d80, c85, c110, hh', hw3, hxn, hpn] <;> first | exact ⟨rfl, rfl, rfl, rfl⟩ | rfl) ?_
          refine DrO.nil ⟨by kernel_rfl, ?_⟩
          refine WpC.ops tabOk (r := []) (by simp -implicitDefEqProofs [ltNot, han, hmn, hx0, hy0, hz1, hz2, d28, d80, c85, c110, hh', hw3, hxn, hpn] <;> rfl) rfl ?_
          exact ⟨p, ⟨by omega, by omega⟩, by omega, Gh.cut' [17, 0, 14] 1 (by simp -implicitDefEqProofs [ltNot, han, hmn, hx0, hy0, hz1, hz2, d28, d80, c85, c110, hh', hw3, hxn, hpn, c85', c110', hstp]) (by simp -implicitDefEqProofs [ltNot, han, hmn, hx0, hy0, hz1, hz2, d28, d80, c85, c110, hh', hw3, hxn, hpn, c85', c110', hstp]) rfl (by simp) (by simp) (by simp)⟩
        · have c110' := c110; first | simp only [dT, dF] at c110' | try simp at c110'
          refine WpC.exit ?_
          refine WpC.ret ?_
          have hxi : x = i := by simp at c110; omega
          subst hxi
          refine ⟨.inr rfl, [], rfl, ?_, by simp⟩
          exact ⟨shrf g x m, rfl, rfl, shrf_mv g q1 q3 (by omega), shrf_srt hcm hok hmn q1 q3 hs1 q4 q5⟩
    · refine WpC.skip ?_
      obtain ⟨mid, hmid⟩ : ∃ mid, (a + b) / 2 = mid := ⟨_, rfl⟩
      have hshm := shr1 hmid (by omega)
      obtain ⟨nn, hnn⟩ : ∃ q, mid + m = q := ⟨_, rfl⟩
      have hwn : IntKind.i64.wrap ((mid : Int) + m) = (nn : Int) := by rw [wrapI (by omega) (by omega)]; omega
      obtain ⟨p, hp⟩ : ∃ q, mid + m - 1 = q := ⟨_, rfl⟩
      have hwp : IntKind.i64.wrap ((nn : Int) - 1) = (p : Int) := by rw [wrapI (by omega) (by omega)]; omega
      obtain ⟨s0, r0, hsr⟩ : ∃ s0 r0 : Nat, (mid < m ∧ s0 + b = mid + m ∧ r0 = mid) ∨ (m ≤ mid ∧ s0 = a ∧ r0 = m) := by
        by_cases h : mid < m
        · exact ⟨mid + m - b, mid, .inl ⟨h, by omega, rfl⟩⟩
        · exact ⟨a, m, .inr ⟨by omega, rfl, rfl⟩⟩
      have hpl : Pl a m b p s0 r0 := ⟨by omega, by omega, by omega, by omega, by omega⟩
      refine WpC.seq (WpC.ops tabOk (r := []) (by simp -implicitDefEqProofs [ltNot, han, hmn, hx0, hy0, hz1, hz2, d28, d80, hshm, hwn, hwp] <;> rfl) rfl ?_)
      refine WpC.seq (WpC.ops tabOk (r := []) (by simp -implicitDefEqProofs [ltNot, han, hmn, hx0, hy0, hz1, hz2, d28, d80, hshm, hwn, hwp] <;> rfl) rfl ?_)
      refine WpC.seq (WpC.ops tabOk (r := []) (by simp -implicitDefEqProofs [ltNot, han, hmn, hx0, hy0, hz1, hz2, d28, d80, hshm, hwn, hwp] <;> rfl) rfl ?_)
      refine WpC.seq ?_
      refine WpC.seq (WpC.ops tabOk (r := []) (by simp -implicitDefEqProofs [ltNot, han, hmn, hx0, hy0, hz1, hz2, d28, d80, hshm, hwn, hwp] <;> rfl) rfl ?_)
      refine WpC.join ⟨[(0, .sl 0 n), (1, .d (dI a)), (2, .d (dI m)), (3, .d (dI b)), (4, .fn 34 [.dp [dI cT], .dp [dI cS], .dp [.list 1 cW], .dp [.list 1 cP]]), (18, .d (dI mid)), (19, .d (dI nn)), (20, .d (dI s0)), (21, .d (dI r0))], [.arr 3 1 (rowF g n)], 220, 1⟩ ?_ ?_
      · refine WpC.condD (mid < m) (by simp -implicitDefEqProofs [ltNot, han, hmn, hx0, hy0, hz1, hz2, d28, d80, hshm, hwn, hwp]) (fun d140 => ?_) (fun d140 => ?_)
        · have hs0 : IntKind.i64.wrap ((nn : Int) - b) = (s0 : Int) := by rw [wrapI (by omega) (by omega)]; omega
          have hr0 : mid = r0 := by omega
          refine WpC.seq (WpC.ops tabOk (r := []) (by simp -implicitDefEqProofs [ltNot, han, hmn, hx0, hy0, hz1, hz2, d28, d80, hshm, hwn, hwp, d140, hs0, hr0] <;> rfl) rfl ?_)
          refine WpC.ops tabOk (r := []) (by simp -implicitDefEqProofs [ltNot, han, hmn, hx0, hy0, hz1, hz2, d28, d80, hshm, hwn, hwp, d140, hs0, hr0] <;> rfl) rfl ?_
          exact ⟨rfl, Gh.cut' [0, 1, 2, 3, 4, 18, 19, 20, 21] 1 (by simp -implicitDefEqProofs [ltNot, han, hmn, hx0, hy0, hz1, hz2, d28, d80, hshm, hwn, hwp, d140, hs0, hr0]) (by simp -implicitDefEqProofs [ltNot, han, hmn, hx0, hy0, hz1, hz2, d28, d80, hshm, hwn, hwp, d140, hs0, hr0]) rfl (by simp) (by simp) (by simp)⟩
        · have hs0 : a = s0 := by omega
          have hr0 : m = r0 := by omega
          refine WpC.seq (WpC.ops tabOk (r := []) (by simp -implicitDefEqProofs [ltNot, han, hmn, hx0, hy0, hz1, hz2, d28, d80, hshm, hwn, hwp, d140, hs0, hr0] <;> rfl) rfl ?_)
          refine WpC.ops tabOk (r := []) (by simp -implicitDefEqProofs [ltNot, han, hmn, hx0, hy0, hz1, hz2, d28, d80, hshm, hwn, hwp, d140, hs0, hr0] <;> rfl) rfl ?_
          exact ⟨rfl, Gh.cut' [0, 1, 2, 3, 4, 18, 19, 20, 21] 1 (by simp -implicitDefEqProofs [ltNot, han, hmn, hx0, hy0, hz1, hz2, d28, d80, hshm, hwn, hwp, d140, hs0, hr0]) (by simp -implicitDefEqProofs [ltNot, han, hmn, hx0, hy0, hz1, hz2, d28, d80, hshm, hwn, hwp, d140, hs0, hr0]) rfl (by simp) (by simp) (by simp)⟩
      · refine WpC.seq (WpC.ops tabOk (r := []) (by simp -implicitDefEqProofs [ltNot, han, hmn, hx0, hy0, hz1, hz2, d28, d80, hshm, hwn, hwp, hwp] <;> rfl) rfl ?_)
        refine WpC.seq ?_
        refine WpC.block ?_
        refine WpC.loopM [0, 1, 2, 3, 4, 18, 19, 22] [20, 21] (fun x => x.2 - x.1) ((s0, r0) : Nat × Nat) (fun x => [(20, .d (dI (x.1 : Nat))), (21, .d (dI (x.2 : Nat)))]) (fun x => [.arr 3 1 (rowF g n)]) (fun x => Sy c g p s0 r0 x.1 x.2) (by simp -implicitDefEqProofs [ltNot, han, hmn, hx0, hy0, hz1, hz2, d28, d80, hshm, hwn, hwp, hwp] <;> rfl) (Gh.cut' [20, 21, 0, 1, 2, 3, 4, 18, 19, 22] 1 (by simp -implicitDefEqProofs [ltNot, han, hmn, hx0, hy0, hz1, hz2, d28, d80, hshm, hwn, hwp, hwp]) (by simp -implicitDefEqProofs [ltNot, han, hmn, hx0, hy0, hz1, hz2, d28, d80, hshm, hwn, hwp, hwp]) rfl (by simp) (by simp) (by simp)) (⟨fun k h1 h2 => by simp at h2; omega, fun k h1 h2 => by simp at h1; omega, Nat.le_refl _, hpl.i3, Nat.le_refl _⟩) ?_
        rintro x hi
        simp only [List.cons_append, List.nil_append]
        obtain ⟨s, r⟩ := x
        simp only at hi ⊢
        obtain ⟨o1, o2, o3⟩ := And.intro hi.o1 (And.intro hi.o2 hi.o3)
        obtain ⟨p1, p2, p3, p4, p5⟩ := hpl
        refine WpC.seq ?_
        refine WpC.seq (WpC.ops tabOk (r := []) (by simp -implicitDefEqProofs [ltNot, han, hmn, hx0, hy0, hz1, hz2, d28, d80, hshm, hwn, hwp, hwp] <;> rfl) rfl ?_)
        refine WpC.condR (by simp -implicitDefEqProofs [ltNot, han, hmn, hx0, hy0, hz1, hz2, d28, d80, hshm, hwn, hwp, hwp] <;> rfl) (by rfl) (fun c151 => ?_) (fun c151 => ?_)
        · have c151' := c151; first | simp only [dT, dF] at c151' | try simp at c151'
          refine WpC.skip ?_
          refine WpC.block ?_
          have hij : s < r := by simpa using c151
          obtain ⟨h, hh⟩ : ∃ h, (s + r) / 2 = h := ⟨_, rfl⟩
          have hsh := shr1 hh (by omega)
          have hhn : h < n := by omega
          obtain ⟨pk, hpk⟩ : ∃ q, p - h = q := ⟨_, rfl⟩
          have hpn : pk < n := by omega
          have hw : IntKind.i64.wrap ((h : Int) + 1) = ((h + 1 : Nat) : Int) := by rw [wrapI (by omega) (by omega)]; omega
          have hw2 : IntKind.i64.wrap ((p : Int) - h) = (pk : Int) := by rw [wrapI (by omega) (by omega)]; omega
          refine WpC.seq (WpC.ops tabOk (r := []) (by simp -implicitDefEqProofs [ltNot, han, hmn, hx0, hy0, hz1, hz2, d28, d80, hshm, hwn, hwp, hwp, c151, hsh, hhn, hw, hw2, hpn] <;> rfl) rfl ?_)
          refine WpC.seq ?_
          refine WpC.drawn tabOk (by kernel_rfl) 0 (by simp) ?_
          refine DrO.run (fz := []) 3 (by simp -implicitDefEqProofs [ltNot, han, hmn, hx0, hy0, hz1, hz2, d28, d80, hshm, hwn, hwp, hwp, c151, hsh, hhn, hw, hw2, hpn] <;> first | exact ⟨rfl, rfl, rfl, rfl⟩ | rfl) ?_
          refine DrO.run (fz := []) 3 (by simp -implicitDefEqProofs [ltNot, han, hmn, hx0, hy0, hz1, hz2, d28, d80, hshm, hwn, hwp, hwp, c151, hsh, hhn, hw, hw2, hpn] <;> first | exact ⟨rfl, rfl, rfl, rfl⟩ | rfl) ?_
          refine DrO.run (fz := []) 3 (by simp -implicitDefEqProofs [ltNot, han, hmn, hx0, hy0, hz1, hz2, d28, d80, hshm, hwn, hwp, hwp, c151, hsh, hhn, hw, hw2, hpn] <;> first | exact ⟨rfl, rfl, rfl, rfl⟩ | rfl) ?_
          refine DrO.run (fz := []) 2 (by simp -implicitDefEqProofs [ltNot, han, hmn, hx0, hy0, hz1, hz2, d28, d80, hshm, hwn, hwp, hwp, c151, hsh, hhn, hw, hw2, hpn] <;> first | exact ⟨rfl, rfl, rfl, rfl⟩ | rfl) ?_
          refine DrO.data (by simp) rfl (by simp -implicitDefEqProofs [ltNot, han, hmn, hx0, hy0, hz1, hz2, d28, d80, hshm, hwn, hwp, hwp, c151, hsh, hhn, hw, hw2, hpn] <;> rfl) (by simp -implicitDefEqProofs [ltNot, han, hmn, hx0, hy0, hz1, hz2, d28, d80, hshm, hwn, hwp, hwp, c151, hsh, hhn, hw, hw2, hpn] <;> rfl) (by simp -implicitDefEqProofs [ltNot, han, hmn, hx0, hy0, hz1, hz2, d28, d80, hshm, hwn, hwp, hwp, c151, hsh, hhn, hw, hw2, hpn] <;> rfl) call_34 (hcc (g pk) (g h) (hok pk hpn) (hok h hhn)) (by rfl) (by simp -implicitDefEqProofs [ltNot, han, hmn, hx0, hy0, hz1, hz2, d28, d80, hshm, hwn, hwp, hwp, c151, hsh, hhn, hw, hw2, hpn] <;> rfl) ?_
          refine DrO.run (fz := []) 2 (by simp -implicitDefEqProofs [ltNot, han, hmn, hx0, hy0, hz1, hz2, d28, d80, hshm, hwn, hwp, hwp, c151, hsh, hhn, hw, hw2, hpn] <;> first | exact ⟨rfl, rfl, rfl, rfl⟩ | rfl) ?_
          refine DrO.nil ⟨by kernel_rfl, ?_⟩
          refine WpC.condD (0 ≤ c (g pk) (g h)) (by simp -implicitDefEqProofs [ltNot, han, hmn, hx0, hy0, hz1, hz2, d28, d80, hshm, hwn, hwp, hwp, c151, hsh, hhn, hw, hw2, hpn]) (fun d171 => ?_) (fun d171 => ?_)
          · refine WpC.ops tabOk (r := []) (by simp -implicitDefEqProofs [ltNot, han, hmn, hx0, hy0, hz1, hz2, d28, d80, hshm, hwn, hwp, hwp, c151, hsh, hhn, hw, hw2, hpn, d171] <;> rfl) rfl ?_
            exact ⟨(h + 1, r), hi.up hcm hok hbn hs1 hs2 ⟨p1, p2, p3, p4, p5⟩ (by omega) (by omega) (by rw [hpk]; omega), by simp; omega, Gh.cut' [20, 21, 0, 1, 2, 3, 4, 18, 19, 22] 1 (by simp -implicitDefEqProofs [ltNot, han, hmn, hx0, hy0, hz1, hz2, d28, d80, hshm, hwn, hwp, hwp, c151, hsh, hhn, hw, hw2, hpn, d171, c151']) (by simp -implicitDefEqProofs [ltNot, han, hmn, hx0, hy0, hz1, hz2, d28, d80, hshm, hwn, hwp, hwp, c151, hsh, hhn, hw, hw2, hpn, d171, c151']) rfl (by simp) (by simp) (by simp)⟩
          · refine WpC.ops tabOk (r := []) (by simp -implicitDefEqProofs [ltNot, han, hmn, hx0, hy0, hz1, hz2, d28, d80, hshm, hwn, hwp, hwp, c151, hsh, hhn, hw, hw2, hpn, d171] <;> rfl) rfl ?_
            exact ⟨(s, h), hi.down hcm hok hbn hs1 hs2 ⟨p1, p2, p3, p4, p5⟩ (by omega) (by omega) (by show c (g (p - h)) (g h) < 0; rw [hpk]; omega), by simp; omega, Gh.cut' [20, 21, 0, 1, 2, 3, 4, 18, 19, 22] 1 (by simp -implicitDefEqProofs [ltNot, han, hmn, hx0, hy0, hz1, hz2, d28, d80, hshm, hwn, hwp, hwp, c151, hsh, hhn, hw, hw2, hpn, d171, c151']) (by simp -implicitDefEqProofs [ltNot, han, hmn, hx0, hy0, hz1, hz2, d28, d80, hshm, hwn, hwp, hwp, c151, hsh, hhn, hw, hw2, hpn, d171, c151']) rfl (by simp) (by simp) (by simp)⟩
        · have c151' := c151; first | simp only [dT, dF] at c151' | try simp at c151'
          refine WpC.exit ?_
          have hij : ¬ s < r := by simpa using c151
          have hse : s = r := by omega
          subst hse
          obtain ⟨e, he⟩ : ∃ e, e + s = mid + m := ⟨mid + m - s, by omega⟩
          have hwe : IntKind.i64.wrap ((nn : Int) - s) = (e : Int) := by rw [wrapI (by omega) (by omega)]; omega
          have haf := after hcm hok hbn hs1 hs2 hmid ham hmb hsr (hp ▸ hi) he
          have hmv := rot_mv g (a := s) (m := m) (b := e) (by omega) (by omega)
          have hmv0 := hmv.wide (a' := a) (b' := b) (by omega) (by omega)
          have hnr : ¬ (s < m ∧ m < e) → rot g s m e = g := fun h => rot_none g h (by omega) (by omega)
          have hrc := fun h1 h2 => rotate_ok cT cS cW cP g n s m e h1 h2 (by omega) hn
          obtain ⟨h1, hh1⟩ : ∃ h, rot g s m e = h := ⟨_, rfl⟩
          rw [hh1] at haf hmv hmv0 hnr
          simp only [hh1] at hrc
          have hok1 := hmv0.okk hbn hok
          refine WpC.seq (WpC.ops tabOk (r := []) (by simp -implicitDefEqProofs [ltNot, han, hmn, hx0, hy0, hz1, hz2, d28, d80, hshm, hwn, hwp, hwp, c151, hwe] <;> rfl) rfl ?_)
          refine WpC.seq ?_
          refine WpC.seq ?_
          refine WpC.val 185 (.d (.bool (decide (s < m ∧ m < e)))) ?_ ?_
          · refine WpC.region ?_
            refine WpO.run tabOk 4 (by simp -implicitDefEqProofs [ltNot, han, hmn, hx0, hy0, hz1, hz2, d28, d80, hshm, hwn, hwp, hwp, c151, hwe] <;> first | exact ⟨rfl, rfl⟩ | rfl) ?_
            refine WpO.splitB 181 (by simp -implicitDefEqProofs [ltNot, han, hmn, hx0, hy0, hz1, hz2, d28, d80, hshm, hwn, hwp, hwp, c151, hwe] <;> rfl) (by rfl) (fun g181 => ?_) (fun g181 => ?_)
            · have g181' := g181; first | simp only [dT, dF] at g181' | try simp at g181'
              refine WpO.run tabOk 4 (by simp -implicitDefEqProofs [ltNot, han, hmn, hx0, hy0, hz1, hz2, d28, d80, hshm, hwn, hwp, hwp, c151, hwe, g181] <;> first | exact ⟨rfl, rfl⟩ | rfl) ?_
              refine WpO.nil ?_
              refine ⟨rfl, Gh.only 185 9 ?_ (by first | rfl | simp -implicitDefEqProofs [ltNot, han, hmn, hx0, hy0, hz1, hz2, d28, d80, hshm, hwn, hwp, hwp, c151, hwe, g181]) (by rfl)⟩
              simp -implicitDefEqProofs [ltNot, han, hmn, hx0, hy0, hz1, hz2, d28, d80, hshm, hwn, hwp, hwp, c151, hwe, g181, g181']
            · have g181' := g181; first | simp only [dT, dF] at g181' | try simp at g181'
              refine WpO.run tabOk 4 (by simp -implicitDefEqProofs [ltNot, han, hmn, hx0, hy0, hz1, hz2, d28, d80, hshm, hwn, hwp, hwp, c151, hwe, g181] <;> first | exact ⟨rfl, rfl⟩ | rfl) ?_
              refine WpO.nil ?_
              refine ⟨rfl, Gh.only 185 9 ?_ (by first | rfl | simp -implicitDefEqProofs [ltNot, han, hmn, hx0, hy0, hz1, hz2, d28, d80, hshm, hwn, hwp, hwp, c151, hwe, g181]) (by rfl)⟩
              simp -implicitDefEqProofs [ltNot, han, hmn, hx0, hy0, hz1, hz2, d28, d80, hshm, hwn, hwp, hwp, c151, hwe, g181, g181']
          refine WpC.join ⟨[(0, .sl 0 n), (1, .d (dI a)), (3, .d (dI b)), (4, .fn 34 [.dp [dI cT], .dp [dI cS], .dp [.list 1 cW], .dp [.list 1 cP]]), (18, .d (dI mid)), (20, .d (dI s)), (24, .d (dI e))], [.arr 3 1 (rowF h1 n)], 220, 1⟩ ?_ ?_
          · refine WpC.condD (s < m ∧ m < e) (by simp -implicitDefEqProofs [ltNot, han, hmn, hx0, hy0, hz1, hz2, d28, d80, hshm, hwn, hwp, hwp, c151, hwe]) (fun d185 => ?_) (fun d185 => ?_)
            · have hrc := hrc d185.1 d185.2
              refine WpC.region ?_
              refine WpO.run tabOk 5 (by simp -implicitDefEqProofs [ltNot, han, hmn, hx0, hy0, hz1, hz2, d28, d80, hshm, hwn, hwp, hwp, c151, hwe, d185] <;> first | exact ⟨rfl, rfl⟩ | rfl) ?_
              refine WpO.callP [0] (by simp) rfl (by simp -implicitDefEqProofs [ltNot, han, hmn, hx0, hy0, hz1, hz2, d28, d80, hshm, hwn, hwp, hwp, c151, hwe, d185] <;> rfl) (by simp -implicitDefEqProofs [ltNot, han, hmn, hx0, hy0, hz1, hz2, d28, d80, hshm, hwn, hwp, hwp, c151, hwe, d185] <;> rfl) call_82 (by simp) (by simp) (by simp) (by simp -implicitDefEqProofs [ltNot, han, hmn, hx0, hy0, hz1, hz2, d28, d80, hshm, hwn, hwp, hwp, c151, hwe, d185]) (by simp; rfl) (by simp -implicitDefEqProofs [ltNot, han, hmn, hx0, hy0, hz1, hz2, d28, d80, hshm, hwn, hwp, hwp, c151, hwe, d185]) ( hrc) fun r S1 hr => ?_
              obtain ⟨rfl, rfl⟩ := hr
              refine ⟨_, by simp -implicitDefEqProofs [ltNot, han, hmn, hx0, hy0, hz1, hz2, d28, d80, hshm, hwn, hwp, hwp, c151, hwe, d185] <;> rfl, ?_⟩
              refine WpO.nil ?_
              exact ⟨rfl, Gh.cut' [0, 1, 3, 4, 18, 20, 24] 1 (by simp -implicitDefEqProofs [ltNot, han, hmn, hx0, hy0, hz1, hz2, d28, d80, hshm, hwn, hwp, hwp, c151, hwe, d185, c151']) (by simp -implicitDefEqProofs [ltNot, han, hmn, hx0, hy0, hz1, hz2, d28, d80, hshm, hwn, hwp, hwp, c151, hwe, d185, c151']) rfl (by simp) (by simp) (by simp)⟩
            · have hnr := hnr d185
              refine WpC.skip ?_
              exact ⟨rfl, Gh.cut' [0, 1, 3, 4, 18, 20, 24] 1 (by simp -implicitDefEqProofs [ltNot, han, hmn, hx0, hy0, hz1, hz2, d28, d80, hshm, hwn, hwp, hwp, c151, hwe, d185, hnr, c151']) (by simp -implicitDefEqProofs [ltNot, han, hmn, hx0, hy0, hz1, hz2, d28, d80, hshm, hwn, hwp, hwp, c151, hwe, d185, hnr, c151']) rfl (by simp) (by simp) (by simp)⟩
          · refine WpC.seq ?_
            refine WpC.seq ?_
            refine WpC.val 199 (.d (.bool (decide (a < s ∧ s < mid)))) ?_ ?_
            · refine WpC.region ?_
              refine WpO.run tabOk 4 (by simp -implicitDefEqProofs [ltNot, han, hmn, hx0, hy0, hz1, hz2, d28, d80, hshm, hwn, hwp, hwp, c151, hwe] <;> first | exact ⟨rfl, rfl⟩ | rfl) ?_
              refine WpO.splitB 195 (by simp -implicitDefEqProofs [ltNot, han, hmn, hx0, hy0, hz1, hz2, d28, d80, hshm, hwn, hwp, hwp, c151, hwe] <;> rfl) (by rfl) (fun g195 => ?_) (fun g195 => ?_)
              · have g195' := g195; first | simp only [dT, dF] at g195' | try simp at g195'
                refine WpO.run tabOk 4 (by simp -implicitDefEqProofs [ltNot, han, hmn, hx0, hy0, hz1, hz2, d28, d80, hshm, hwn, hwp, hwp, c151, hwe, g195] <;> first | exact ⟨rfl, rfl⟩ | rfl) ?_
                refine WpO.nil ?_
                refine ⟨rfl, Gh.only 199 9 ?_ (by first | rfl | simp -implicitDefEqProofs [ltNot, han, hmn, hx0, hy0, hz1, hz2, d28, d80, hshm, hwn, hwp, hwp, c151, hwe, g195]) (by rfl)⟩
                simp -implicitDefEqProofs [ltNot, han, hmn, hx0, hy0, hz1, hz2, d28, d80, hshm, hwn, hwp, hwp, c151, hwe, g195, g195']
              · have g195' := g195; first | simp only [dT, dF] at g195' | try simp at g195'
                refine WpO.run tabOk 4 (by simp -implicitDefEqProofs [ltNot, han, hmn, hx0, hy0, hz1, hz2, d28, d80, hshm, hwn, hwp, hwp, c151, hwe, g195] <;> first | exact ⟨rfl, rfl⟩ | rfl) ?_
                refine WpO.nil ?_
                refine ⟨rfl, Gh.only 199 9 ?_ (by first | rfl | simp -implicitDefEqProofs [ltNot, han, hmn, hx0, hy0, hz1, hz2, d28, d80, hshm, hwn, hwp, hwp, c151, hwe, g195]) (by rfl)⟩
                simp -implicitDefEqProofs [ltNot, han, hmn, hx0, hy0, hz1, hz2, d28, d80, hshm, hwn, hwp, hwp, c151, hwe, g195, g195']
            refine WpC.condD (a < s ∧ s < mid) (by simp -implicitDefEqProofs [ltNot, han, hmn, hx0, hy0, hz1, hz2, d28, d80, hshm, hwn, hwp, hwp, c151, hwe]) (fun d199 => ?_) (fun d199 => ?_)
            · have hm1 := ih h1 a s mid (by omega) d199.1 d199.2 (by omega) hok1 haf.s1 haf.s2
              refine WpC.region ?_
              refine WpO.run tabOk 5 (by simp -implicitDefEqProofs [ltNot, han, hmn, hx0, hy0, hz1, hz2, d28, d80, hshm, hwn, hwp, hwp, c151, hwe, d199] <;> first | exact ⟨rfl, rfl⟩ | rfl) ?_
              refine WpO.callP [0] (by simp) rfl (by simp -implicitDefEqProofs [ltNot, han, hmn, hx0, hy0, hz1, hz2, d28, d80, hshm, hwn, hwp, hwp, c151, hwe, d199] <;> rfl) (by simp -implicitDefEqProofs [ltNot, han, hmn, hx0, hy0, hz1, hz2, d28, d80, hshm, hwn, hwp, hwp, c151, hwe, d199] <;> rfl) call_72 (by simp) (by simp) (by simp) (by simp -implicitDefEqProofs [ltNot, han, hmn, hx0, hy0, hz1, hz2, d28, d80, hshm, hwn, hwp, hwp, c151, hwe, d199]) (by simp; rfl) (by simp -implicitDefEqProofs [ltNot, han, hmn, hx0, hy0, hz1, hz2, d28, d80, hshm, hwn, hwp, hwp, c151, hwe, d199]) ( hm1) fun r S1 hr => ?_
              obtain ⟨h2, rfl, rfl, m1, t1⟩ := hr
              refine ⟨_, by simp -implicitDefEqProofs [ltNot, han, hmn, hx0, hy0, hz1, hz2, d28, d80, hshm, hwn, hwp, hwp, c151, hwe, d199] <;> rfl, ?_⟩
              refine WpO.nil ?_
              refine WpC.seq ?_
              have hok2 := m1.okk (by omega) hok1
              have t3 : Srtd c h2 mid e := haf.s3.eq fun i i1 i2 => m1.out i (by omega)
              have t4 : Srtd c h2 e b := haf.s4.eq fun i i1 i2 => m1.out i (by omega)
              refine WpC.val 213 (.d (.bool (decide (mid < e ∧ e < b)))) ?_ ?_
              · refine WpC.region ?_
                refine WpO.run tabOk 4 (by simp -implicitDefEqProofs [ltNot, han, hmn, hx0, hy0, hz1, hz2, d28, d80, hshm, hwn, hwp, hwp, c151, hwe, d199] <;> first | exact ⟨rfl, rfl⟩ | rfl) ?_
                refine WpO.splitB 209 (by simp -implicitDefEqProofs [ltNot, han, hmn, hx0, hy0, hz1, hz2, d28, d80, hshm, hwn, hwp, hwp, c151, hwe, d199] <;> rfl) (by rfl) (fun g209 => ?_) (fun g209 => ?_)
                · have g209' := g209; first | simp only [dT, dF] at g209' | try simp at g209'
                  refine WpO.run tabOk 4 (by simp -implicitDefEqProofs [ltNot, han, hmn, hx0, hy0, hz1, hz2, d28, d80, hshm, hwn, hwp, hwp, c151, hwe, d199, g209] <;> first | exact ⟨rfl, rfl⟩ | rfl) ?_
                  refine WpO.nil ?_
                  refine ⟨rfl, Gh.only 213 9 ?_ (by first | rfl | simp -implicitDefEqProofs [ltNot, han, hmn, hx0, hy0, hz1, hz2, d28, d80, hshm, hwn, hwp, hwp, c151, hwe, d199, g209]) (by rfl)⟩
                  simp -implicitDefEqProofs [ltNot, han, hmn, hx0, hy0, hz1, hz2, d28, d80, hshm, hwn, hwp, hwp, c151, hwe, d199, g209, g209']
                · have g209' := g209; first | simp only [dT, dF] at g209' | try simp at g209'
                  refine WpO.run tabOk 4 (by simp -implicitDefEqProofs [ltNot, han, hmn, hx0, hy0, hz1, hz2, d28, d80, hshm, hwn, hwp, hwp, c151, hwe, d199, g209] <;> first | exact ⟨rfl, rfl⟩ | rfl) ?_
                  refine WpO.nil ?_
                  refine ⟨rfl, Gh.only 213 9 ?_ (by first | rfl | simp -implicitDefEqProofs [ltNot, han, hmn, hx0, hy0, hz1, hz2, d28, d80, hshm, hwn, hwp, hwp, c151, hwe, d199, g209]) (by rfl)⟩
                  simp -implicitDefEqProofs [ltNot, han, hmn, hx0, hy0, hz1, hz2, d28, d80, hshm, hwn, hwp, hwp, c151, hwe, d199, g209, g209']
              refine WpC.condD (mid < e ∧ e < b) (by simp -implicitDefEqProofs [ltNot, han, hmn, hx0, hy0, hz1, hz2, d28, d80, hshm, hwn, hwp, hwp, c151, hwe, d199]) (fun d213 => ?_) (fun d213 => ?_)
              · have hm2 := ih h2 mid e b (by omega) d213.1 d213.2 (by omega) hok2 t3 t4
                refine WpC.region ?_
                refine WpO.run tabOk 5 (by simp -implicitDefEqProofs [ltNot, han, hmn, hx0, hy0, hz1, hz2, d28, d80, hshm, hwn, hwp, hwp, c151, hwe, d199, d213] <;> first | exact ⟨rfl, rfl⟩ | rfl) ?_
                refine WpO.callP [0] (by simp) rfl (by simp -implicitDefEqProofs [ltNot, han, hmn, hx0, hy0, hz1, hz2, d28, d80, hshm, hwn, hwp, hwp, c151, hwe, d199, d213] <;> rfl) (by simp -implicitDefEqProofs [ltNot, han, hmn, hx0, hy0, hz1, hz2, d28, d80, hshm, hwn, hwp, hwp, c151, hwe, d199, d213] <;> rfl) call_72 (by simp) (by simp) (by simp) (by simp -implicitDefEqProofs [ltNot, han, hmn, hx0, hy0, hz1, hz2, d28, d80, hshm, hwn, hwp, hwp, c151, hwe, d199, d213]) (by simp; rfl) (by simp -implicitDefEqProofs [ltNot, han, hmn, hx0, hy0, hz1, hz2, d28, d80, hshm, hwn, hwp, hwp, c151, hwe, d199, d213]) ( hm2) fun r S1 hr => ?_
                obtain ⟨h3, rfl, rfl, m2, t2⟩ := hr
                refine ⟨_, by simp -implicitDefEqProofs [ltNot, han, hmn, hx0, hy0, hz1, hz2, d28, d80, hshm, hwn, hwp, hwp, c151, hwe, d199, d213] <;> rfl, ?_⟩
                refine WpO.nil ?_
                refine ⟨.inl rfl, [], rfl, ?_, by simp⟩
                refine ⟨_, rfl, ?_, (hmv0.trans (m1.wide (by omega) (by omega))).trans (m2.wide (by omega) (by omega)), sym_end haf m1 t1 m2 t2⟩
                rfl
              · have m2 := Mv.refl mid b h2
                have t2 : Srtd c h2 mid b := by
                  by_cases q : mid < e
                  · have : e = b := by omega
                    rw [← this]; exact t3
                  · have : mid = e := by omega
                    rw [this]; exact t4
                refine WpC.skip ?_
                refine ⟨.inl rfl, [], rfl, ?_, by simp⟩
                refine ⟨_, rfl, ?_, (hmv0.trans (m1.wide (by omega) (by omega))).trans (m2.wide (by omega) (by omega)), sym_end haf m1 t1 m2 t2⟩
                rfl
            · obtain ⟨h2, rfl, m1, t1⟩ : ∃ h2, h2 = h1 ∧ Mv a mid h1 h2 ∧ Srtd c h2 a mid := by
                refine ⟨h1, rfl, Mv.refl _ _ _, ?_⟩
                by_cases q : a < s
                · have : s = mid := by omega
                  rw [← this]; exact haf.s1
                · have : a = s := by omega
                  rw [this]; exact haf.s2
              refine WpC.skip ?_
              refine WpC.seq ?_
              have hok2 := m1.okk (by omega) hok1
              have t3 : Srtd c h2 mid e := haf.s3.eq fun i i1 i2 => m1.out i (by omega)
              have t4 : Srtd c h2 e b := haf.s4.eq fun i i1 i2 => m1.out i (by omega)
              refine WpC.val 213 (.d (.bool (decide (mid < e ∧ e < b)))) ?_ ?_
              · refine WpC.region ?_
                refine WpO.run tabOk 4 (by simp -implicitDefEqProofs [ltNot, han, hmn, hx0, hy0, hz1, hz2, d28, d80, hshm, hwn, hwp, hwp, c151, hwe, d199] <;> first | exact ⟨rfl, rfl⟩ | rfl) ?_
                refine WpO.splitB 209 (by simp -implicitDefEqProofs [ltNot, han, hmn, hx0, hy0, hz1, hz2, d28, d80, hshm, hwn, hwp, hwp, c151, hwe, d199] <;> rfl) (by rfl) (fun g209 => ?_) (fun g209 => ?_)
                · have g209' := g209; first | simp only [dT, dF] at g209' | try simp at g209'
                  refine WpO.run tabOk 4 (by simp -implicitDefEqProofs [ltNot, han, hmn, hx0, hy0, hz1, hz2, d28, d80, hshm, hwn, hwp, hwp, c151, hwe, d199, g209] <;> first | exact ⟨rfl, rfl⟩ | rfl) ?_
                  refine WpO.nil ?_
                  refine ⟨rfl, Gh.only 213 9 ?_ (by first | rfl | simp -implicitDefEqProofs [ltNot, han, hmn, hx0, hy0, hz1, hz2, d28, d80, hshm, hwn, hwp, hwp, c151, hwe, d199, g209]) (by rfl)⟩
                  simp -implicitDefEqProofs [ltNot, han, hmn, hx0, hy0, hz1, hz2, d28, d80, hshm, hwn, hwp, hwp, c151, hwe, d199, g209, g209']
                · have g209' := g209; first | simp only [dT, dF] at g209' | try simp at g209'
                  refine WpO.run tabOk 4 (by simp -implicitDefEqProofs [ltNot, han, hmn, hx0, hy0, hz1, hz2, d28, d80, hshm, hwn, hwp, hwp, c151, hwe, d199, g209] <;> first | exact ⟨rfl, rfl⟩ | rfl) ?_
                  refine WpO.nil ?_
                  refine ⟨rfl, Gh.only 213 9 ?_ (by first | rfl | simp -implicitDefEqProofs [ltNot, han, hmn, hx0, hy0, hz1, hz2, d28, d80, hshm, hwn, hwp, hwp, c151, hwe, d199, g209]) (by rfl)⟩
                  simp -implicitDefEqProofs [ltNot, han, hmn, hx0, hy0, hz1, hz2, d28, d80, hshm, hwn, hwp, hwp, c151, hwe, d199, g209, g209']
              refine WpC.condD (mid < e ∧ e < b) (by simp -implicitDefEqProofs [ltNot, han, hmn, hx0, hy0, hz1, hz2, d28, d80, hshm, hwn, hwp, hwp, c151, hwe, d199]) (fun d213 => ?_) (fun d213 => ?_)
              · have hm2 := ih h2 mid e b (by omega) d213.1 d213.2 (by omega) hok2 t3 t4
                refine WpC.region ?_
                refine WpO.run tabOk 5 (by simp -implicitDefEqProofs [ltNot, han, hmn, hx0, hy0, hz1, hz2, d28, d80, hshm, hwn, hwp, hwp, c151, hwe, d199, d213] <;> first | exact ⟨rfl, rfl⟩ | rfl) ?_
                refine WpO.callP [0] (by simp) rfl (by simp -implicitDefEqProofs [ltNot, han, hmn, hx0, hy0, hz1, hz2, d28, d80, hshm, hwn, hwp, hwp, c151, hwe, d199, d213] <;> rfl) (by simp -implicitDefEqProofs [ltNot, han, hmn, hx0, hy0, hz1, hz2, d28, d80, hshm, hwn, hwp, hwp, c151, hwe, d199, d213] <;> rfl) call_72 (by simp) (by simp) (by simp) (by simp -implicitDefEqProofs [ltNot, han, hmn, hx0, hy0, hz1, hz2, d28, d80, hshm, hwn, hwp, hwp, c151, hwe, d199, d213]) (by simp; rfl) (by simp -implicitDefEqProofs [ltNot, han, hmn, hx0, hy0, hz1, hz2, d28, d80, hshm, hwn, hwp, hwp, c151, hwe, d199, d213]) ( hm2) fun r S1 hr => ?_
                obtain ⟨h3, rfl, rfl, m2, t2⟩ := hr
                refine ⟨_, by simp -implicitDefEqProofs [ltNot, han, hmn, hx0, hy0, hz1, hz2, d28, d80, hshm, hwn, hwp, hwp, c151, hwe, d199, d213] <;> rfl, ?_⟩
                refine WpO.nil ?_
                refine ⟨.inl rfl, [], rfl, ?_, by simp⟩
                refine ⟨_, rfl, ?_, (hmv0.trans (m1.wide (by omega) (by omega))).trans (m2.wide (by omega) (by omega)), sym_end haf m1 t1 m2 t2⟩
                rfl
              · have m2 := Mv.refl mid b h2
                have t2 : Srtd c h2 mid b := by
                  by_cases q : mid < e
                  · have : e = b := by omega
                    rw [← this]; exact t3
                  · have : mid = e := by omega
                    rw [this]; exact t4
                refine WpC.skip ?_
                refine ⟨.inl rfl, [], rfl, ?_, by simp⟩
                refine ⟨_, rfl, ?_, (hmv0.trans (m1.wide (by omega) (by omega))).trans (m2.wide (by omega) (by omega)), sym_end haf m1 t1 m2 t2⟩
                rfl
end
end Go.Proofs.Ytaobnhenjldjeaa.Pay
/- slices.SortStableFunc at sixty numbers or fewer. No statement of the seed is proved here. -/
namespace Go.Proofs.Ytaobnhenjldjeaa.Pay
open Go Go.RowKit
set_option linter.unusedVariables false
set_option linter.unusedSimpArgs false

/-- Blocks of so many numbers are sorted, below a and from it on. -/
def Bl (c : Int → Int → Int) (g : Nat → Int) (k : Nat) (a b : Nat) : Prop := ∀ i j, a ≤ i → i < j → j < b → i / k = j / k → ¬ c (g j) (g i) < 0

section
variable {c : Int → Int → Int} {g h h' : Nat → Int} {n a k : Nat}
theorem bl_first (hk : k = 20 ∨ k = 40) (ha : a % (2 * k) = 0) (hn : a + k ≤ n) (hb : Bl c h k a n) : Srtd c h a (a + k) := fun i j h1 h2 h3 => by
  rcases hk with rfl | rfl <;> exact hb i j h1 h2 (by omega) (by omega)
theorem bl_next {b : Nat} (hk : k = 20 ∨ k = 40) (ha : a % (2 * k) = 0) (hn : b ≤ n) (hb2 : b ≤ a + 2 * k) (hb : Bl c h k a n) : Srtd c h (a + k) b := fun i j h1 h2 h3 => by
  rcases hk with rfl | rfl <;> exact hb i j (by omega) h2 (by omega) (by omega)
theorem bl_done {b : Nat} (hk : k = 20 ∨ k = 40) (ha : a % (2 * k) = 0) (hb : Bl c h (2 * k) 0 a) (m1 : Mv a b h h') (t1 : Srtd c h' a b) : Bl c h' (2 * k) 0 b := fun i j h1 h2 h3 h4 => by
  by_cases e : j < a
  · rw [m1.out i (by omega), m1.out j (by omega)]; exact hb i j h1 h2 e h4
  · refine t1 i j ?_ h2 h3
    rcases hk with rfl | rfl <;> omega
theorem bl_rest {b : Nat} (hb : Bl c h k a n) (hab : a ≤ b) (m1 : Mv a b h h') : Bl c h' k b n := fun i j h1 h2 h3 h4 => by
  rw [m1.out i (by omega), m1.out j (by omega)]; exact hb i j (by omega) h2 h3 h4
theorem bl_last (hk : k = 20 ∨ k = 40) (ha : a % (2 * k) = 0) (hn : n ≤ a + k) (h1 : Bl c h (2 * k) 0 a) (h2 : Bl c h k a n) : Bl c h (2 * k) 0 n := fun i j i1 i2 i3 i4 => by
  by_cases e : j < a
  · exact h1 i j i1 i2 e i4
  · rcases hk with rfl | rfl <;> exact h2 i j (by omega) i2 i3 (by omega)
theorem bl_all (hn : n ≤ k) (hb : Bl c h k 0 n) : Srtd c h 0 n := fun i j h1 h2 h3 => hb i j h1 h2 h3 (by rw [Nat.div_eq_of_lt (by omega), Nat.div_eq_of_lt (by omega)])
end
section
variable (cT cS : Int) (cW cP : List D) {c : Int → Int → Int} {ok : Int → Prop} (hcm : Cmp c ok)
  (hcc : ∀ x y, ok x → ok y → Gives Try.prog 34 [.d (dI x), .d (dI y), .dp [dI cT], .dp [dI cS], .dp [.list 1 cW], .dp [.list 1 cP]] (.d (dI (c x y))))
include hcm hcc
set_option maxHeartbeats 40000000 in
theorem stable_ok (g : Nat → Int) (n : Nat) (hn : n ≤ 60) (hok : AllOk ok g n) :
    WpF Try.prog 49 [.sl 0 n, .d (dI n), .fn 34 [.dp [dI cT], .dp [dI cS], .dp [.list 1 cW], .dp [.list 1 cP]]] [.arr 3 1 (rowF g n)]
      fun r S => ∃ h, r = .tup [] ∧ S = [.arr 3 1 (rowF h n)] ∧ Mv 0 n g h ∧ Srtd c h 0 n := by
  refine WpF.enter tabOk Try.func49 rfl (by show 3 ≤ 63; decide) ?_
  simp only [Try.f49]
  refine WpC.seq (WpC.ops tabOk (r := []) (by simp -implicitDefEqProofs <;> rfl) rfl ?_)
  refine WpC.seq (WpC.ops tabOk (r := []) (by simp -implicitDefEqProofs <;> rfl) rfl ?_)
  refine WpC.seq ?_
  refine WpC.block ?_
  refine WpC.loopM [0, 1, 2, 6] [7, 8] (fun x => 100 - x.1) ((0, g) : Nat × (Nat → Int)) (fun x => [(7, .d (dI (x.1 : Nat))), (8, .d (dI ((x.1 + 20 : Nat) : Int)))]) (fun x => [.arr 3 1 (rowF x.2 n)]) (fun x => x.1 ≤ n ∧ x.1 % 20 = 0 ∧ Mv 0 n g x.2 ∧ Bl c x.2 20 0 x.1) (by simp -implicitDefEqProofs <;> rfl) (Gh.cut' [7, 8, 0, 1, 2, 6] 1 (by simp -implicitDefEqProofs) (by simp -implicitDefEqProofs) rfl (by simp) (by simp) (by simp)) (⟨by simp, by simp, Mv.refl _ _ _, fun i j h1 h2 h3 => by simp at h3⟩) ?_
  rintro x hi
  simp only [List.cons_append, List.nil_append]
  obtain ⟨a, h⟩ := x
  obtain ⟨q1, q2, q3, q4⟩ := hi
  simp only at q1 q2 q3 q4 ⊢
  obtain ⟨b, hb⟩ : ∃ b, a + 20 = b := ⟨_, rfl⟩
  rw [hb]
  have hok1 := q3.okk (Nat.le_refl _) hok
  refine WpC.seq ?_
  refine WpC.seq (WpC.ops tabOk (r := []) (by simp -implicitDefEqProofs <;> rfl) rfl ?_)
  refine WpC.condR (by simp -implicitDefEqProofs <;> rfl) (by rfl) (fun c13 => ?_) (fun c13 => ?_)
  · have c13' := c13; first | simp only [dT, dF] at c13' | try simp at c13'
    have hbn : b ≤ n := by simpa using c13
    have hw1 : IntKind.i64.wrap ((b : Int) + 20) = (b : Int) + 20 := wrapI (by omega) (by omega)
    have hc := insSort_ok cT cS cW cP hcm hcc h n a b (by omega) hbn (by omega) hok1
    refine WpC.skip ?_
    refine WpC.block ?_
    refine WpC.seq ?_
    refine WpC.region ?_
    refine WpO.run tabOk 4 (by simp -implicitDefEqProofs [c13, hw1] <;> first | exact ⟨rfl, rfl⟩ | rfl) ?_
    refine WpO.callP [0] (by simp) rfl (by simp -implicitDefEqProofs [c13, hw1] <;> rfl) (by simp -implicitDefEqProofs [c13, hw1] <;> rfl) call_71 (by simp) (by simp) (by simp) (by simp -implicitDefEqProofs [c13, hw1]) (by simp; rfl) (by simp -implicitDefEqProofs [c13, hw1]) ( hc) fun r S1 hr => ?_
    obtain ⟨h', rfl, rfl, m1, t1⟩ := hr
    refine ⟨_, by simp -implicitDefEqProofs [c13, hw1] <;> rfl, ?_⟩
    refine WpO.nil ?_
    have bl : Bl c h' 20 0 b := fun i j i1 i2 i3 i4 => by
      by_cases e : j < a
      · rw [m1.out i (by omega), m1.out j (by omega)]; exact q4 i j i1 i2 e i4
      · exact t1 i j (by omega) i2 i3
    refine WpC.seq (WpC.ops tabOk (r := []) (by simp -implicitDefEqProofs [c13, hw1] <;> rfl) rfl ?_)
    refine WpC.ops tabOk (r := []) (by simp -implicitDefEqProofs [c13, hw1] <;> rfl) rfl ?_
    exact ⟨(b, h'), ⟨by simp; omega, by simp; omega, q3.trans (m1.wide (by omega) (by omega)), bl⟩, by simp; omega, Gh.cut' [7, 8, 0, 1, 2, 6] 1 (by simp -implicitDefEqProofs [c13, hw1, c13']) (by simp -implicitDefEqProofs [c13, hw1, c13']) rfl (by simp) (by simp) (by simp)⟩
  · have c13' := c13; first | simp only [dT, dF] at c13' | try simp at c13'
    refine WpC.exit ?_
    refine WpC.seq ?_
    have hbn : ¬ b ≤ n := by simpa using c13
    have hc := insSort_ok cT cS cW cP hcm hcc h n a n q1 (Nat.le_refl _) (by omega) hok1
    refine WpC.region ?_
    refine WpO.run tabOk 4 (by simp -implicitDefEqProofs [c13] <;> first | exact ⟨rfl, rfl⟩ | rfl) ?_
    refine WpO.callP [0] (by simp) rfl (by simp -implicitDefEqProofs [c13] <;> rfl) (by simp -implicitDefEqProofs [c13] <;> rfl) call_71 (by simp) (by simp) (by simp) (by simp -implicitDefEqProofs [c13]) (by simp; rfl) (by simp -implicitDefEqProofs [c13]) ( hc) fun r S1 hr => ?_
    obtain ⟨h', rfl, rfl, m1, t1⟩ := hr
    refine ⟨_, by simp -implicitDefEqProofs [c13] <;> rfl, ?_⟩
    refine WpO.nil ?_
    refine WpC.block ?_
    refine WpC.loopM [0, 1, 2] [6] (fun x => 100 - x.1) ((20, h') : Nat × (Nat → Int)) (fun x => [(6, .d (dI (x.1 : Nat)))]) (fun x => [.arr 3 1 (rowF x.2 n)]) (fun x => Mv 0 n g x.2 ∧ ((x.1 = 20 ∧ Bl c x.2 20 0 n) ∨ (x.1 = 40 ∧ Bl c x.2 40 0 n) ∨ (x.1 = 80 ∧ Srtd c x.2 0 n))) (by simp -implicitDefEqProofs [c13] <;> rfl) (Gh.cut' [6, 0, 1, 2] 1 (by simp -implicitDefEqProofs [c13]) (by simp -implicitDefEqProofs [c13]) rfl (by simp) (by simp) (by simp)) (⟨q3.trans (m1.wide (by omega) (by omega)), .inl ⟨rfl, fun i j i1 i2 i3 i4 => by
by_cases e : j < a
· show ¬ c (h' j) (h' i) < 0
  rw [m1.out i (by omega), m1.out j (by omega)]; exact q4 i j i1 i2 e i4
· exact t1 i j (by omega) i2 i3⟩⟩) ?_
    rintro x hi
    simp only [List.cons_append, List.nil_append]
    obtain ⟨k, f⟩ := x
    obtain ⟨p1, p2⟩ := hi
    simp only at p1 p2 ⊢
    refine WpC.seq ?_
    refine WpC.seq (WpC.ops tabOk (r := []) (by simp -implicitDefEqProofs [c13] <;> rfl) rfl ?_)
    refine WpC.condR (by simp -implicitDefEqProofs [c13] <;> rfl) (by rfl) (fun c30 => ?_) (fun c30 => ?_)
    · have c30' := c30; first | simp only [dT, dF] at c30' | try simp at c30'
      have hkn : k < n := by simpa using c30
      obtain ⟨hk, hbk⟩ : (k = 20 ∨ k = 40) ∧ Bl c f k 0 n := by
        rcases p2 with ⟨rfl, q⟩ | ⟨rfl, q⟩ | ⟨rfl, q⟩
        · exact ⟨.inl rfl, q⟩
        · exact ⟨.inr rfl, q⟩
        · omega
      have hw2 : IntKind.i64.wrap (2 * (k : Int)) = ((2 * k : Nat) : Int) := by rw [wrapI (by omega) (by omega)]; omega
      have hw3 : IntKind.i64.wrap ((k : Int) * 2) = ((2 * k : Nat) : Int) := by rw [wrapI (by omega) (by omega)]; omega
      refine WpC.skip ?_
      refine WpC.block ?_
      refine WpC.seq (WpC.ops tabOk (r := []) (by simp -implicitDefEqProofs [c13, c30, hw2, hw3] <;> rfl) rfl ?_)
      refine WpC.seq ?_
      refine WpC.block ?_
      refine WpC.loopM [0, 1, 2, 6] [7, 8] (fun y => 1000 - y.1) ((0, f) : Nat × (Nat → Int)) (fun y => [(7, .d (dI (y.1 : Nat))), (8, .d (dI ((y.1 + 2 * k : Nat) : Int)))]) (fun y => [.arr 3 1 (rowF y.2 n)]) (fun y => y.1 ≤ n ∧ y.1 % (2 * k) = 0 ∧ Mv 0 n g y.2 ∧ Bl c y.2 (2 * k) 0 y.1 ∧ Bl c y.2 k y.1 n) (by simp -implicitDefEqProofs [c13, c30, hw2, hw3] <;> rfl) (Gh.cut' [7, 8, 0, 1, 2, 6] 1 (by simp -implicitDefEqProofs [c13, c30, hw2, hw3]) (by simp -implicitDefEqProofs [c13, c30, hw2, hw3]) rfl (by simp) (by simp) (by simp)) (⟨by simp, by simp, p1, fun i j i1 i2 i3 => by simp at i3, hbk⟩) ?_
      rintro y hi
      simp only [List.cons_append, List.nil_append]
      obtain ⟨a2, f2⟩ := y
      obtain ⟨p3, p4, p5, p6, p7⟩ := hi
      simp only at p3 p4 p5 p6 p7 ⊢
      obtain ⟨b2, hb2⟩ : ∃ b, a2 + 2 * k = b := ⟨_, rfl⟩
      rw [hb2]
      obtain ⟨m2, hm2⟩ : ∃ b, a2 + k = b := ⟨_, rfl⟩
      have hok2 := p5.okk (Nat.le_refl _) hok
      have hw4 : IntKind.i64.wrap ((a2 : Int) + k) = (m2 : Int) := by rw [wrapI (by omega) (by omega)]; omega
      refine WpC.seq ?_
      refine WpC.seq (WpC.ops tabOk (r := []) (by simp -implicitDefEqProofs [c13, c30, hw2, hw3, hw4] <;> rfl) rfl ?_)
      refine WpC.condR (by simp -implicitDefEqProofs [c13, c30, hw2, hw3, hw4] <;> rfl) (by rfl) (fun c35 => ?_) (fun c35 => ?_)
      · have c35' := c35; first | simp only [dT, dF] at c35' | try simp at c35'
        have hbn : b2 ≤ n := by simpa using c35
        have hw5 : IntKind.i64.wrap ((b2 : Int) + ((2 * k : Nat) : Int)) = ((b2 + 2 * k : Nat) : Int) := by rw [wrapI (by omega) (by omega)]; omega
        have hw6 : IntKind.i64.wrap ((b2 : Int) + 2 * (k : Int)) = (b2 : Int) + 2 * (k : Int) := wrapI (by omega) (by omega)
        have hc := symMerge_ok cT cS cW cP hcm hcc n (by omega) (b2 - a2) f2 a2 m2 b2 (Nat.le_refl _) (by omega) (by omega) hbn hok2 (hm2 ▸ bl_first hk p4 (by omega) p7) (hm2 ▸ bl_next hk p4 hbn (by omega) p7)
        refine WpC.skip ?_
        refine WpC.block ?_
        refine WpC.seq ?_
        refine WpC.region ?_
        refine WpO.run tabOk 7 (by simp -implicitDefEqProofs [c13, c30, hw2, hw3, hw4, c35, hw5, hw6] <;> first | exact ⟨rfl, rfl⟩ | rfl) ?_
        refine WpO.callP [0] (by simp) rfl (by simp -implicitDefEqProofs [c13, c30, hw2, hw3, hw4, c35, hw5, hw6] <;> rfl) (by simp -implicitDefEqProofs [c13, c30, hw2, hw3, hw4, c35, hw5, hw6] <;> rfl) call_72 (by simp) (by simp) (by simp) (by simp -implicitDefEqProofs [c13, c30, hw2, hw3, hw4, c35, hw5, hw6]) (by simp; rfl) (by simp -implicitDefEqProofs [c13, c30, hw2, hw3, hw4, c35, hw5, hw6]) ( hc) fun r S1 hr => ?_
        obtain ⟨f3, rfl, rfl, m3, t3⟩ := hr
        refine ⟨_, by simp -implicitDefEqProofs [c13, c30, hw2, hw3, hw4, c35, hw5, hw6] <;> rfl, ?_⟩
        refine WpO.nil ?_
        refine WpC.seq (WpC.ops tabOk (r := []) (by simp -implicitDefEqProofs [c13, c30, hw2, hw3, hw4, c35, hw5, hw6] <;> rfl) rfl ?_)
        refine WpC.ops tabOk (r := []) (by simp -implicitDefEqProofs [c13, c30, hw2, hw3, hw4, c35, hw5, hw6] <;> rfl) rfl ?_
        exact ⟨(b2, f3), ⟨by simp; omega, by simp only; rcases hk with rfl | rfl <;> omega, p5.trans (m3.wide (by omega) (by omega)), hb2 ▸ bl_done hk p4 p6 (hb2 ▸ m3) (hb2 ▸ t3), bl_rest p7 (by omega) m3⟩, by simp; omega, Gh.cut' [7, 8, 0, 1, 2, 6] 1 (by simp -implicitDefEqProofs [c13, c30, hw2, hw3, hw4, c35, hw5, hw6, c13', c30', c35']) (by simp -implicitDefEqProofs [c13, c30, hw2, hw3, hw4, c35, hw5, hw6, c13', c30', c35']) rfl (by simp) (by simp) (by simp)⟩
      · have c35' := c35; first | simp only [dT, dF] at c35' | try simp at c35'
        refine WpC.exit ?_
        refine WpC.seq ?_
        refine WpC.seq (WpC.ops tabOk (r := []) (by simp -implicitDefEqProofs [c13, c30, hw2, hw3, hw4, c35] <;> rfl) rfl ?_)
        refine WpC.seq (WpC.ops tabOk (r := []) (by simp -implicitDefEqProofs [c13, c30, hw2, hw3, hw4, c35] <;> rfl) rfl ?_)
        refine WpC.condR (by simp -implicitDefEqProofs [c13, c30, hw2, hw3, hw4, c35] <;> rfl) (by rfl) (fun c54 => ?_) (fun c54 => ?_)
        · have c54' := c54; first | simp only [dT, dF] at c54' | try simp at c54'
          have hbn : ¬ b2 ≤ n := by simpa using c35
          have hmn : m2 < n := by simpa using c54
          have hc := symMerge_ok cT cS cW cP hcm hcc n (by omega) (n - a2) f2 a2 m2 n (Nat.le_refl _) (by omega) hmn (Nat.le_refl _) hok2 (hm2 ▸ bl_first hk p4 (by omega) p7) (hm2 ▸ bl_next hk p4 (Nat.le_refl _) (by omega) p7)
          refine WpC.region ?_
          refine WpO.run tabOk 5 (by simp -implicitDefEqProofs [c13, c30, hw2, hw3, hw4, c35, c54] <;> first | exact ⟨rfl, rfl⟩ | rfl) ?_
          refine WpO.callP [0] (by simp) rfl (by simp -implicitDefEqProofs [c13, c30, hw2, hw3, hw4, c35, c54] <;> rfl) (by simp -implicitDefEqProofs [c13, c30, hw2, hw3, hw4, c35, c54] <;> rfl) call_72 (by simp) (by simp) (by simp) (by simp -implicitDefEqProofs [c13, c30, hw2, hw3, hw4, c35, c54]) (by simp; rfl) (by simp -implicitDefEqProofs [c13, c30, hw2, hw3, hw4, c35, c54]) ( hc) fun r S1 hr => ?_
          obtain ⟨f3, rfl, rfl, m3, t3⟩ := hr
          refine ⟨_, by simp -implicitDefEqProofs [c13, c30, hw2, hw3, hw4, c35, c54] <;> rfl, ?_⟩
          refine WpO.nil ?_
          have hbn : ¬ b2 ≤ n := by simpa using c35
          first
          | have bl3 : Bl c f3 (2 * k) 0 n := bl_done hk p4 p6 m3 t3
          | have bl3 : Bl c f2 (2 * k) 0 n := bl_last hk p4 (by simp at c54; omega) p6 p7
          refine WpC.ops tabOk (r := []) (by simp -implicitDefEqProofs [c13, c30, hw2, hw3, hw4, c35, c54] <;> rfl) rfl ?_
          exact ⟨(2 * k, f3), ⟨p5.trans (m3.wide (by omega) (by omega)), by rcases hk with rfl | rfl; exact .inr (.inl ⟨rfl, bl3⟩); exact .inr (.inr ⟨rfl, bl_all (by omega) bl3⟩)⟩, by simp; omega, Gh.cut' [6, 0, 1, 2] 1 (by simp -implicitDefEqProofs [c13, c30, hw2, hw3, hw4, c35, c54, c13', c30', c35', c54']) (by simp -implicitDefEqProofs [c13, c30, hw2, hw3, hw4, c35, c54, c13', c30', c35', c54']) rfl (by simp) (by simp) (by simp)⟩
        · have c54' := c54; first | simp only [dT, dF] at c54' | try simp at c54'
          refine WpC.skip ?_
          have hbn : ¬ b2 ≤ n := by simpa using c35
          first
          | have bl3 : Bl c f3 (2 * k) 0 n := bl_done hk p4 p6 m3 t3
          | have bl3 : Bl c f2 (2 * k) 0 n := bl_last hk p4 (by simp at c54; omega) p6 p7
          refine WpC.ops tabOk (r := []) (by simp -implicitDefEqProofs [c13, c30, hw2, hw3, hw4, c35, c54] <;> rfl) rfl ?_
          exact ⟨(2 * k, f2), ⟨p5, by rcases hk with rfl | rfl; exact .inr (.inl ⟨rfl, bl3⟩); exact .inr (.inr ⟨rfl, bl_all (by omega) bl3⟩)⟩, by simp; omega, Gh.cut' [6, 0, 1, 2] 1 (by simp -implicitDefEqProofs [c13, c30, hw2, hw3, hw4, c35, c54, c13', c30', c35', c54']) (by simp -implicitDefEqProofs [c13, c30, hw2, hw3, hw4, c35, c54, c13', c30', c35', c54']) rfl (by simp) (by simp) (by simp)⟩
    · have c30' := c30; first | simp only [dT, dF] at c30' | try simp at c30'
      refine WpC.exit ?_
      refine ⟨.inl rfl, [], rfl, ?_, by simp⟩
      have hkn : ¬ k < n := by simpa using c30
      exact ⟨f, rfl, rfl, p1, by rcases p2 with ⟨rfl, q⟩ | ⟨rfl, q⟩ | ⟨rfl, q⟩; exact bl_all (by omega) q; exact bl_all (by omega) q; exact q⟩
theorem sortStable_ok (g : Nat → Int) (n : Nat) (hn : n ≤ 60) (hok : AllOk ok g n) :
    WpF Try.prog 33 [.sl 0 n, .fn 34 [.dp [dI cT], .dp [dI cS], .dp [.list 1 cW], .dp [.list 1 cP]]] [.arr 3 1 (rowF g n)]
      fun r S => ∃ h, r = .tup [] ∧ S = [.arr 3 1 (rowF h n)] ∧ Mv 0 n g h ∧ Srtd c h 0 n := by
  have hc := stable_ok cT cS cW cP hcm hcc g n hn hok
  refine WpF.enter tabOk Try.func33 rfl (by show 2 ≤ 9; decide) ?_
  simp only [Try.f33]
  refine WpC.region ?_
  refine WpO.run tabOk 4 (by simp -implicitDefEqProofs <;> first | exact ⟨rfl, rfl⟩ | rfl) ?_
  refine WpO.callP [0] (by simp) rfl (by simp -implicitDefEqProofs <;> rfl) (by simp -implicitDefEqProofs <;> rfl) call_49 (by simp) (by simp) (by simp) (by simp -implicitDefEqProofs) (by simp; rfl) (by simp -implicitDefEqProofs) ( hc) fun r S1 hr => ?_
  obtain ⟨h, rfl, rfl, m1, t1⟩ := hr
  refine ⟨_, by simp -implicitDefEqProofs <;> rfl, ?_⟩
  refine WpO.nil ?_
  refine ⟨.inl rfl, [], rfl, ?_, by simp⟩
  exact ⟨h, rfl, rfl, m1, t1⟩
end
end Go.Proofs.Ytaobnhenjldjeaa.Pay
/- What Split's sorting compares. No statement of the seed is proved here. -/
namespace Go.Proofs.Ytaobnhenjldjeaa.Pay
open Go Go.RowKit
set_option linter.unusedVariables false
set_option linter.unusedSimpArgs false
set_option linter.unusedSectionVars false

theorem cmp_ok (a b c d : Int) (ha : inA a) (hb : inA b) (hc : inA c) (hd : inA d) : Gives Try.prog 50 [.d (dI a), .d (dI b), .d (dI c), .d (dI d)] (.d (dI (cmpI (a * b) (c * d)))) := by
  have p1 := product_ok a b ha hb
  have p2 := product_ok c d hc hd
  have l1 := larger_ok (c * d).natAbs (a * b).natAbs
  have l2 := larger_ok (a * b).natAbs (c * d).natAbs
  obtain ⟨x, hx⟩ : ∃ x, a * b = x := ⟨_, rfl⟩
  obtain ⟨y, hy⟩ : ∃ x, c * d = x := ⟨_, rfl⟩
  rw [hx] at p1 l1 l2 ⊢
  rw [hy] at p2 l1 l2 ⊢
  obtain ⟨u1, hu1⟩ : ∃ q, x.natAbs / 18446744073709551616 = q := ⟨_, rfl⟩
  obtain ⟨u2, hu2⟩ : ∃ q, x.natAbs % 18446744073709551616 = q := ⟨_, rfl⟩
  obtain ⟨v1, hv1⟩ : ∃ q, y.natAbs / 18446744073709551616 = q := ⟨_, rfl⟩
  obtain ⟨v2, hv2⟩ : ∃ q, y.natAbs % 18446744073709551616 = q := ⟨_, rfl⟩
  rw [hu1, hu2] at p1 l1 l2
  rw [hv1, hv2] at p2 l1 l2
  clear hu1 hu2 hv1 hv2 hx hy
  refine Gives.enter tabOk Try.func50 rfl (by show 4 ≤ 53; decide) ?_
  simp only [Try.f50]
  refine WpC.seq (WpC.ops tabOk (r := []) (by simp -implicitDefEqProofs [ltNot] <;> rfl) rfl ?_)
  refine WpC.seq ?_
  refine WpC.region ?_
  refine WpO.run tabOk 2 (by simp -implicitDefEqProofs [ltNot] <;> first | exact ⟨rfl, rfl⟩ | rfl) ?_
  refine WpO.data (by simp) rfl (by simp -implicitDefEqProofs [ltNot] <;> rfl) (by simp -implicitDefEqProofs [ltNot] <;> rfl) (by simp -implicitDefEqProofs [ltNot] <;> rfl) call_73 (by simp) (p1) (by rfl) (by simp -implicitDefEqProofs [ltNot] <;> rfl) ?_
  refine WpO.run tabOk 7 (by simp -implicitDefEqProofs [ltNot] <;> first | exact ⟨rfl, rfl⟩ | rfl) ?_
  refine WpO.nil ?_
  refine WpC.seq ?_
  refine WpC.region ?_
  refine WpO.run tabOk 2 (by simp -implicitDefEqProofs [ltNot] <;> first | exact ⟨rfl, rfl⟩ | rfl) ?_
  refine WpO.data (by simp) rfl (by simp -implicitDefEqProofs [ltNot] <;> rfl) (by simp -implicitDefEqProofs [ltNot] <;> rfl) (by simp -implicitDefEqProofs [ltNot] <;> rfl) call_73 (by simp) (p2) (by rfl) (by simp -implicitDefEqProofs [ltNot] <;> rfl) ?_
  refine WpO.run tabOk 7 (by simp -implicitDefEqProofs [ltNot] <;> first | exact ⟨rfl, rfl⟩ | rfl) ?_
  refine WpO.nil ?_
  refine WpC.seq ?_
  refine WpC.block ?_
  refine WpC.seq ?_
  refine WpC.val 29 (.d (.bool (decide (x < 0 ∧ ¬ y < 0)))) ?_ ?_
  · refine WpC.region ?_
    refine WpO.run tabOk 2 (by simp -implicitDefEqProofs [ltNot] <;> first | exact ⟨rfl, rfl⟩ | rfl) ?_
    refine WpO.splitB 31 (by simp -implicitDefEqProofs [ltNot] <;> rfl) (by rfl) (fun g31 => ?_) (fun g31 => ?_)
    · try (exfalso; revert g31; simp; done)
      all_goals
        have g31' := g31; first | simp only [dT, dF] at g31' | try simp at g31'
        refine WpO.run tabOk 4 (by simp -implicitDefEqProofs [ltNot, g31] <;> first | exact ⟨rfl, rfl⟩ | rfl) ?_
        refine WpO.nil ?_
        refine ⟨rfl, Gh.only 29 7 ?_ (by first | rfl | simp -implicitDefEqProofs [ltNot, g31]) (by rfl)⟩
        simp -implicitDefEqProofs [ltNot, g31, g31'] <;> omega
    · try (exfalso; revert g31; simp; done)
      all_goals
        have g31' := g31; first | simp only [dT, dF] at g31' | try simp at g31'
        refine WpO.run tabOk 4 (by simp -implicitDefEqProofs [ltNot, g31] <;> first | exact ⟨rfl, rfl⟩ | rfl) ?_
        refine WpO.nil ?_
        refine ⟨rfl, Gh.only 29 7 ?_ (by first | rfl | simp -implicitDefEqProofs [ltNot, g31]) (by rfl)⟩
        simp -implicitDefEqProofs [ltNot, g31, g31'] <;> omega
  refine WpC.condD (x < 0 ∧ ¬ y < 0) (by simp -implicitDefEqProofs [ltNot]) (fun d29 => ?_) (fun d29 => ?_)
  · refine WpC.seq (WpC.ops tabOk (r := []) (by simp -implicitDefEqProofs [ltNot, d29] <;> rfl) rfl ?_)
    refine WpC.ret ?_
    try simp only [blockQ, seqQ]
    refine retD_i (by simp -implicitDefEqProofs [ltNot, d29] <;> rfl) (by simp -implicitDefEqProofs [ltNot, d29] <;> rfl) ?_
    rw [show cmpI x y = -1 from by unfold cmpI; rw [if_pos (by omega)]]; simp
  · refine WpC.seq ?_
    refine WpC.val 35 (.d (.bool (decide (y < 0 ∧ ¬ x < 0)))) ?_ ?_
    · refine WpC.region ?_
      refine WpO.run tabOk 2 (by simp -implicitDefEqProofs [ltNot, d29] <;> first | exact ⟨rfl, rfl⟩ | rfl) ?_
      refine WpO.splitB 37 (by simp -implicitDefEqProofs [ltNot, d29] <;> rfl) (by rfl) (fun g37 => ?_) (fun g37 => ?_)
      · try (exfalso; revert g37; simp; done)
        all_goals
          have g37' := g37; first | simp only [dT, dF] at g37' | try simp at g37'
          refine WpO.run tabOk 4 (by simp -implicitDefEqProofs [ltNot, d29, g37] <;> first | exact ⟨rfl, rfl⟩ | rfl) ?_
          refine WpO.nil ?_
          refine ⟨rfl, Gh.only 35 7 ?_ (by first | rfl | simp -implicitDefEqProofs [ltNot, d29, g37]) (by rfl)⟩
          simp -implicitDefEqProofs [ltNot, d29, g37, g37'] <;> omega
      · try (exfalso; revert g37; simp; done)
        all_goals
          have g37' := g37; first | simp only [dT, dF] at g37' | try simp at g37'
          refine WpO.run tabOk 4 (by simp -implicitDefEqProofs [ltNot, d29, g37] <;> first | exact ⟨rfl, rfl⟩ | rfl) ?_
          refine WpO.nil ?_
          refine ⟨rfl, Gh.only 35 7 ?_ (by first | rfl | simp -implicitDefEqProofs [ltNot, d29, g37]) (by rfl)⟩
          simp -implicitDefEqProofs [ltNot, d29, g37, g37'] <;> omega
    refine WpC.condD (y < 0 ∧ ¬ x < 0) (by simp -implicitDefEqProofs [ltNot, d29]) (fun d35 => ?_) (fun d35 => ?_)
    · refine WpC.seq (WpC.ops tabOk (r := []) (by simp -implicitDefEqProofs [ltNot, d29, d35] <;> rfl) rfl ?_)
      refine WpC.ret ?_
      try simp only [blockQ, seqQ]
      refine retD_i (by simp -implicitDefEqProofs [ltNot, d29, d35] <;> rfl) (by simp -implicitDefEqProofs [ltNot, d29, d35] <;> rfl) ?_
      rw [show cmpI x y = 1 from by unfold cmpI; rw [if_neg (by omega), if_neg (by omega)]]; simp
    · refine WpC.seq (WpC.ops tabOk (r := []) (by simp -implicitDefEqProofs [ltNot, d29, d35] <;> rfl) rfl ?_)
      refine WpC.condD (x < 0) (by simp -implicitDefEqProofs [ltNot, d29, d35]) (fun d41 => ?_) (fun d41 => ?_)
      · refine WpC.seq ?_
        refine WpC.region ?_
        refine WpO.run tabOk 4 (by simp -implicitDefEqProofs [ltNot, d29, d35, d41] <;> first | exact ⟨rfl, rfl⟩ | rfl) ?_
        refine WpO.data (by simp) rfl (by simp -implicitDefEqProofs [ltNot, d29, d35, d41] <;> rfl) (by simp -implicitDefEqProofs [ltNot, d29, d35, d41] <;> rfl) (by simp -implicitDefEqProofs [ltNot, d29, d35, d41] <;> rfl) call_74 (by simp) (l1) (by rfl) (by simp -implicitDefEqProofs [ltNot, d29, d35, d41] <;> rfl) ?_
        refine WpO.run tabOk 1 (by simp -implicitDefEqProofs [ltNot, d29, d35, d41] <;> first | exact ⟨rfl, rfl⟩ | rfl) ?_
        refine WpO.nil ?_
        refine WpC.ret ?_
        try simp only [blockQ, seqQ]
        refine retD_i (by simp -implicitDefEqProofs [ltNot, d29, d35, d41] <;> rfl) (by simp -implicitDefEqProofs [ltNot, d29, d35, d41] <;> rfl) ?_
        have e : cmpI (y.natAbs : Int) (x.natAbs : Int) = cmpI x y := by unfold cmpI; split <;> (try split) <;> (try split) <;> (try split) <;> omega
        rw [e]; simp
      · refine WpC.skip ?_
        refine WpC.seq ?_
        refine WpC.region ?_
        refine WpO.run tabOk 4 (by simp -implicitDefEqProofs [ltNot, d29, d35, d41] <;> first | exact ⟨rfl, rfl⟩ | rfl) ?_
        refine WpO.data (by simp) rfl (by simp -implicitDefEqProofs [ltNot, d29, d35, d41] <;> rfl) (by simp -implicitDefEqProofs [ltNot, d29, d35, d41] <;> rfl) (by simp -implicitDefEqProofs [ltNot, d29, d35, d41] <;> rfl) call_74 (by simp) (l2) (by rfl) (by simp -implicitDefEqProofs [ltNot, d29, d35, d41] <;> rfl) ?_
        refine WpO.run tabOk 1 (by simp -implicitDefEqProofs [ltNot, d29, d35, d41] <;> first | exact ⟨rfl, rfl⟩ | rfl) ?_
        refine WpO.nil ?_
        refine WpC.ret ?_
        try simp only [blockQ, seqQ]
        refine retD_i (by simp -implicitDefEqProofs [ltNot, d29, d35, d41] <;> rfl) (by simp -implicitDefEqProofs [ltNot, d29, d35, d41] <;> rfl) ?_
        have e : cmpI (x.natAbs : Int) (y.natAbs : Int) = cmpI x y := by unfold cmpI; split <;> (try split) <;> (try split) <;> (try split) <;> omega
        rw [e]; simp

/-- Is what is left over of the one less than of the other? -/
def lessB (T S : Int) (wf pf : Nat → Int) (i j : Nat) : Bool := decide (T * (wf i - wf j) < (pf i - pf j) * S)
def inN (n : Int) : Prop := 0 ≤ n ∧ n ≤ 9223372036854775807
section
variable (T S : Int) (wf pf : Nat → Int) (n : Nat) (hT : inN T) (hS : inN S) (hw : ∀ i, i < n → inN (wf i)) (hp : ∀ i, i < n → inN (pf i)) (hn : n ≤ 60)
include hT hS hw hp hn
theorem less_ok (i j : Nat) (hi : i < n) (hj : j < n) : Gives Try.prog 35 [.d (dI T), .d (dI S), .d (.list 1 (rowF wf n)), .d (.list 1 (rowF pf n)), .d (dI i), .d (dI j)] (.d (.bool (lessB T S wf pf i j))) := by
  have h1 := hw i hi
  have h2 := hw j hj
  have h3 := hp i hi
  have h4 := hp j hj
  unfold lessB
  obtain ⟨x, hx⟩ : ∃ x, wf i - wf j = x := ⟨_, rfl⟩
  obtain ⟨y, hy⟩ : ∃ x, pf i - pf j = x := ⟨_, rfl⟩
  unfold inN at h1 h2 h3 h4 hT hS
  have w1 : IntKind.i64.wrap (wf i - wf j) = x := by rw [hx]; exact wrapI (by omega) (by omega)
  have w2 : IntKind.i64.wrap (pf i - pf j) = y := by rw [hy]; exact wrapI (by omega) (by omega)
  have hc := cmp_ok T x y S (by unfold inA; omega) (by unfold inA; omega) (by unfold inA; omega) (by unfold inA; omega)
  rw [hx, hy]
  have hk : (cmpI (T * x) (y * S) < 0) = (T * x < y * S) := propext (by
    unfold cmpI
    generalize T * x = p
    generalize y * S = q
    by_cases e1 : p < q
    · simp [e1]
    · by_cases e2 : p = q
      · simp [e2]
      · simp [e1, e2])
  refine Gives.enter tabOk Try.func35 rfl (by show 6 ≤ 35; decide) ?_
  simp only [Try.f35]
  refine WpC.seq (WpC.ops tabOk (r := []) (by simp -implicitDefEqProofs [hi, hj, w1, w2, hk] <;> rfl) rfl ?_)
  refine WpC.seq ?_
  refine WpC.drawn tabOk (by kernel_rfl) 0 (by simp) ?_
  refine DrO.run (fz := []) 3 (by simp -implicitDefEqProofs [hi, hj, w1, w2, hk] <;> first | exact ⟨rfl, rfl, rfl, rfl⟩ | rfl) ?_
  refine DrO.run (fz := []) 3 (by simp -implicitDefEqProofs [hi, hj, w1, w2, hk] <;> first | exact ⟨rfl, rfl, rfl, rfl⟩ | rfl) ?_
  refine DrO.run (fz := []) 3 (by simp -implicitDefEqProofs [hi, hj, w1, w2, hk] <;> first | exact ⟨rfl, rfl, rfl, rfl⟩ | rfl) ?_
  refine DrO.run (fz := []) 3 (by simp -implicitDefEqProofs [hi, hj, w1, w2, hk] <;> first | exact ⟨rfl, rfl, rfl, rfl⟩ | rfl) ?_
  refine DrO.run (fz := []) 3 (by simp -implicitDefEqProofs [hi, hj, w1, w2, hk] <;> first | exact ⟨rfl, rfl, rfl, rfl⟩ | rfl) ?_
  refine DrO.run (fz := []) 3 (by simp -implicitDefEqProofs [hi, hj, w1, w2, hk] <;> first | exact ⟨rfl, rfl, rfl, rfl⟩ | rfl) ?_
  refine DrO.run (fz := []) 2 (by simp -implicitDefEqProofs [hi, hj, w1, w2, hk] <;> first | exact ⟨rfl, rfl, rfl, rfl⟩ | rfl) ?_
  refine DrO.data (by simp) rfl (by simp -implicitDefEqProofs [hi, hj, w1, w2, hk] <;> rfl) (by simp -implicitDefEqProofs [hi, hj, w1, w2, hk] <;> rfl) (by simp -implicitDefEqProofs [hi, hj, w1, w2, hk] <;> rfl) call_50 (hc) (by rfl) (by simp -implicitDefEqProofs [hi, hj, w1, w2, hk] <;> rfl) ?_
  refine DrO.run (fz := []) 2 (by simp -implicitDefEqProofs [hi, hj, w1, w2, hk] <;> first | exact ⟨rfl, rfl, rfl, rfl⟩ | rfl) ?_
  refine DrO.nil ⟨by kernel_rfl, ?_⟩
  refine WpC.ret ?_
  try simp only [blockQ, seqQ]
  refine retD_i (by simp -implicitDefEqProofs [hi, hj, w1, w2, hk] <;> rfl) (by simp -implicitDefEqProofs [hi, hj, w1, w2, hk] <;> rfl) ?_
  simp -implicitDefEqProofs [hi, hj, w1, w2, hk]

/-- The comparison. -/
def cS (T S : Int) (wf pf : Nat → Int) (x y : Int) : Int := if lessB T S wf pf y.toNat x.toNat = true then -1 else if lessB T S wf pf x.toNat y.toNat = true then 1 else x - y
def okS (n : Nat) (x : Int) : Prop := 0 ≤ x ∧ x < n
theorem cS_ok (x y : Int) (hx : okS n x) (hy : okS n y) : Gives Try.prog 34 [.d (dI x), .d (dI y), .dp [dI T], .dp [dI S], .dp [.list 1 (rowF wf n)], .dp [.list 1 (rowF pf n)]] (.d (dI (cS T S wf pf x y))) := by
  obtain ⟨i, rfl⟩ : ∃ i : Nat, x = i := ⟨x.toNat, by unfold okS at hx; omega⟩
  obtain ⟨j, rfl⟩ : ∃ i : Nat, y = i := ⟨y.toNat, by unfold okS at hy; omega⟩
  have hi : i < n := by unfold okS at hx; omega
  have hj : j < n := by unfold okS at hy; omega
  have l1 := less_ok T S wf pf n hT hS hw hp hn j i hj hi
  have l2 := less_ok T S wf pf n hT hS hw hp hn i j hi hj
  have hd : IntKind.i64.wrap ((i : Int) - j) = (i : Int) - j := wrapI (by omega) (by omega)
  unfold cS
  rw [show (i : Int).toNat = i from rfl, show (j : Int).toNat = j from rfl]
  obtain ⟨b1, hb1⟩ : ∃ b, lessB T S wf pf j i = b := ⟨_, rfl⟩
  obtain ⟨b2, hb2⟩ : ∃ b, lessB T S wf pf i j = b := ⟨_, rfl⟩
  rw [hb1] at l1 ⊢
  rw [hb2] at l2 ⊢
  refine Gives.enter tabOk Try.func34 rfl (by show 6 ≤ 28; decide) ?_
  simp only [Try.f34]
  refine WpC.seq (WpC.ops tabOk (r := []) (by simp -implicitDefEqProofs [hd] <;> rfl) rfl ?_)
  refine WpC.seq ?_
  refine WpC.block ?_
  refine WpC.seq ?_
  refine WpC.region ?_
  refine WpO.run tabOk 6 (by simp -implicitDefEqProofs [hd] <;> first | exact ⟨rfl, rfl⟩ | rfl) ?_
  refine WpO.data (by simp) rfl (by simp -implicitDefEqProofs [hd] <;> rfl) (by simp -implicitDefEqProofs [hd] <;> rfl) (by simp -implicitDefEqProofs [hd] <;> rfl) call_35 (by simp) (l1) (by rfl) (by simp -implicitDefEqProofs [hd] <;> rfl) ?_
  refine WpO.run tabOk 1 (by simp -implicitDefEqProofs [hd] <;> first | exact ⟨rfl, rfl⟩ | rfl) ?_
  refine WpO.nil ?_
  refine WpC.condR (by simp -implicitDefEqProofs [hd] <;> rfl) (by rfl) (fun c9 => ?_) (fun c9 => ?_)
  · have c9' := c9; first | simp only [dT, dF] at c9' | try simp at c9'
    refine WpC.seq (WpC.ops tabOk (r := []) (by simp -implicitDefEqProofs [hd, c9] <;> rfl) rfl ?_)
    refine WpC.ret ?_
    try simp only [blockQ, seqQ]
    refine retD_i (by simp -implicitDefEqProofs [hd, c9] <;> rfl) (by simp -implicitDefEqProofs [hd, c9] <;> rfl) ?_
    simp -implicitDefEqProofs [hd, c9]
  · have c9' := c9; first | simp only [dT, dF] at c9' | try simp at c9'
    refine WpC.seq ?_
    refine WpC.region ?_
    refine WpO.run tabOk 6 (by simp -implicitDefEqProofs [hd, c9] <;> first | exact ⟨rfl, rfl⟩ | rfl) ?_
    refine WpO.data (by simp) rfl (by simp -implicitDefEqProofs [hd, c9] <;> rfl) (by simp -implicitDefEqProofs [hd, c9] <;> rfl) (by simp -implicitDefEqProofs [hd, c9] <;> rfl) call_35 (by simp) (l2) (by rfl) (by simp -implicitDefEqProofs [hd, c9] <;> rfl) ?_
    refine WpO.run tabOk 1 (by simp -implicitDefEqProofs [hd, c9] <;> first | exact ⟨rfl, rfl⟩ | rfl) ?_
    refine WpO.nil ?_
    refine WpC.condR (by simp -implicitDefEqProofs [hd, c9] <;> rfl) (by rfl) (fun c17 => ?_) (fun c17 => ?_)
    · have c17' := c17; first | simp only [dT, dF] at c17' | try simp at c17'
      refine WpC.seq (WpC.ops tabOk (r := []) (by simp -implicitDefEqProofs [hd, c9, c17] <;> rfl) rfl ?_)
      refine WpC.ret ?_
      try simp only [blockQ, seqQ]
      refine retD_i (by simp -implicitDefEqProofs [hd, c9, c17] <;> rfl) (by simp -implicitDefEqProofs [hd, c9, c17] <;> rfl) ?_
      simp -implicitDefEqProofs [hd, c9, c17]
    · have c17' := c17; first | simp only [dT, dF] at c17' | try simp at c17'
      refine WpC.skip ?_
      refine WpC.seq (WpC.ops tabOk (r := []) (by simp -implicitDefEqProofs [hd, c9, c17] <;> rfl) rfl ?_)
      refine WpC.ret ?_
      try simp only [blockQ, seqQ]
      refine retD_i (by simp -implicitDefEqProofs [hd, c9, c17] <;> rfl) (by simp -implicitDefEqProofs [hd, c9, c17] <;> rfl) ?_
      simp -implicitDefEqProofs [hd, c9, c17]
omit hT hS hw hp hn in
theorem cS_cmp : Cmp (cS T S wf pf) (okS n) := by
  have key : ∀ x y : Int, okS n x → okS n y → (cS T S wf pf x y < 0 ↔ (T * wf y.toNat - pf y.toNat * S < T * wf x.toNat - pf x.toNat * S ∨ (T * wf y.toNat - pf y.toNat * S = T * wf x.toNat - pf x.toNat * S ∧ x < y))) := by
    intro x y hx hy
    have e : ∀ i j, lessB T S wf pf i j = true ↔ T * wf i - pf i * S < T * wf j - pf j * S := fun i j => by
      unfold lessB
      rw [decide_eq_true_iff, Int.mul_sub, Int.sub_mul]; omega
    unfold cS
    by_cases h1 : lessB T S wf pf y.toNat x.toNat = true
    · rw [if_pos h1]
      have := (e _ _).1 h1
      omega
    · rw [if_neg h1]
      have h1' : ¬ _ := fun q => h1 ((e _ _).2 q)
      by_cases h2 : lessB T S wf pf x.toNat y.toNat = true
      · rw [if_pos h2]
        have := (e _ _).1 h2
        omega
      · rw [if_neg h2]
        have h2' : ¬ _ := fun q => h2 ((e _ _).2 q)
        omega
  refine ⟨fun x y hx hy h => ?_, fun x y z hx hy hz h1 h2 => ?_, fun x y hx hy h => ?_⟩
  · rw [key _ _ hx hy] at h
    rw [key _ _ hy hx]; omega
  · rw [key _ _ hx hy] at h1
    rw [key _ _ hy hz] at h2
    rw [key _ _ hx hz]; omega
  · rw [key _ _ hx hy, key _ _ hy hx]; omega
end
end Go.Proofs.Ytaobnhenjldjeaa.Pay
/- Sums of weights; what is asked of each; a row of one's own. No statement of the seed is proved here. -/
namespace Go.Proofs.Ytaobnhenjldjeaa.Pay
open Go Go.RowKit
set_option linter.unusedVariables false
set_option linter.unusedSimpArgs false
set_option linter.unusedSectionVars false

def in64 (n : Int) : Prop := -9223372036854775808 ≤ n ∧ n ≤ 9223372036854775807
def addB (a b : Int) : Bool := decide (-9223372036854775807 ≤ a ∧ -9223372036854775807 ≤ b ∧ -9223372036854775807 ≤ a + b ∧ a + b ≤ 9223372036854775807)
set_option maxHeartbeats 20000000 in
theorem addM_ok (a b : Int) (ha : in64 a) (hb : in64 b) : Gives Try.prog 43 [.d (dI a), .d (dI b)] (.tup [.d (dI (if addB a b = true then a + b else 0)), .d (dI (if addB a b = true then 0 else 3))]) := by
  unfold in64 at ha hb
  obtain ⟨c, hc⟩ : ∃ c, IntKind.i64.wrap (a + b) = c := ⟨_, rfl⟩
  have hc2 : (c = a + b ∨ c = a + b - 18446744073709551616 ∨ c = a + b + 18446744073709551616) ∧ -9223372036854775808 ≤ c ∧ c ≤ 9223372036854775807 := by
    rw [← hc, IntKind.wrap_i64]; omega
  have hbad : (¬ -9223372036854775807 ≤ a ∨ ¬ -9223372036854775807 ≤ b ∨ ¬ -9223372036854775807 ≤ c ∨ (0 < a ∧ 0 < b ∧ c < 0) ∨ (a < 0 ∧ b < 0 ∧ 0 ≤ c)) ↔ addB a b = false := by
    unfold addB
    rw [decide_eq_false_iff_not]; omega
  have hgood : addB a b = true → c = a + b := fun h => by
    unfold addB at h
    rw [decide_eq_true_iff] at h; omega
  have r1 := rightM_ok a
  have r2 := rightM_ok b
  have r3 := rightM_ok c
  unfold rightM at r1 r2 r3
  refine Gives.enter tabOk Try.func43 rfl (by show 2 ≤ 48; decide) ?_
  simp only [Try.f43]
  refine WpC.seq (WpC.ops tabOk (r := []) (by simp -implicitDefEqProofs [hc] <;> rfl) rfl ?_)
  refine WpC.seq (WpC.ops tabOk (r := []) (by simp -implicitDefEqProofs [hc] <;> rfl) rfl ?_)
  refine WpC.seq ?_
  refine WpC.seq ?_
  refine WpC.val 46 (.d (.bool (decide (¬ -9223372036854775807 ≤ a ∨ ¬ -9223372036854775807 ≤ b ∨ ¬ -9223372036854775807 ≤ c ∨ (0 < a ∧ 0 < b ∧ c < 0) ∨ (a < 0 ∧ b < 0 ∧ 0 ≤ c))))) ?_ ?_
  · refine WpC.region ?_
    refine WpO.run tabOk 1 (by simp -implicitDefEqProofs [hc] <;> first | exact ⟨rfl, rfl⟩ | rfl) ?_
    refine WpO.data (by simp) rfl (by simp -implicitDefEqProofs [hc] <;> rfl) (by simp -implicitDefEqProofs [hc] <;> rfl) (by simp -implicitDefEqProofs [hc] <;> rfl) call_44 (by simp) (r1) (by rfl) (by simp -implicitDefEqProofs [hc] <;> rfl) ?_
    refine WpO.run tabOk 2 (by simp -implicitDefEqProofs [hc] <;> first | exact ⟨rfl, rfl⟩ | rfl) ?_
    refine WpO.splitB 13 (by simp -implicitDefEqProofs [hc] <;> rfl) (by rfl) (fun g13 => ?_) (fun g13 => ?_)
    · try (exfalso; revert g13; simp; done)
      all_goals
        have g13' := g13; first | simp only [dT, dF] at g13' | try simp at g13'
        refine WpO.run tabOk 33 (by simp -implicitDefEqProofs [hc, g13] <;> first | exact ⟨rfl, rfl⟩ | rfl) ?_
        refine WpO.nil ?_
        refine ⟨rfl, Gh.only 46 38 ?_ (by first | rfl | simp -implicitDefEqProofs [hc, g13]) (by rfl)⟩
        all_goals (clear r1 r2 r3 hbad hgood hc2 hc; first | (simp_all; done) | (simp_all; omega) | omega)
    · try (exfalso; revert g13; simp; done)
      all_goals
        have g13' := g13; first | simp only [dT, dF] at g13' | try simp at g13'
        refine WpO.run tabOk 1 (by simp -implicitDefEqProofs [hc, g13] <;> first | exact ⟨rfl, rfl⟩ | rfl) ?_
        refine WpO.data (by simp) rfl (by simp -implicitDefEqProofs [hc, g13] <;> rfl) (by simp -implicitDefEqProofs [hc, g13] <;> rfl) (by simp -implicitDefEqProofs [hc, g13] <;> rfl) call_44 (by simp) (r2) (by rfl) (by simp -implicitDefEqProofs [hc, g13] <;> rfl) ?_
        refine WpO.run tabOk 3 (by simp -implicitDefEqProofs [hc, g13] <;> first | exact ⟨rfl, rfl⟩ | rfl) ?_
        refine WpO.splitB 18 (by simp -implicitDefEqProofs [hc, g13] <;> rfl) (by rfl) (fun g18 => ?_) (fun g18 => ?_)
        · try (exfalso; revert g18; simp; done)
          all_goals
            have g18' := g18; first | simp only [dT, dF] at g18' | try simp at g18'
            refine WpO.run tabOk 28 (by simp -implicitDefEqProofs [hc, g13, g18] <;> first | exact ⟨rfl, rfl⟩ | rfl) ?_
            refine WpO.nil ?_
            refine ⟨rfl, Gh.only 46 39 ?_ (by first | rfl | simp -implicitDefEqProofs [hc, g13, g18]) (by rfl)⟩
            all_goals (clear r1 r2 r3 hbad hgood hc2 hc; first | (simp_all; done) | (simp_all; omega) | omega)
        · try (exfalso; revert g18; simp; done)
          all_goals
            have g18' := g18; first | simp only [dT, dF] at g18' | try simp at g18'
            refine WpO.run tabOk 1 (by simp -implicitDefEqProofs [hc, g13, g18] <;> first | exact ⟨rfl, rfl⟩ | rfl) ?_
            refine WpO.data (by simp) rfl (by simp -implicitDefEqProofs [hc, g13, g18] <;> rfl) (by simp -implicitDefEqProofs [hc, g13, g18] <;> rfl) (by simp -implicitDefEqProofs [hc, g13, g18] <;> rfl) call_44 (by simp) (r3) (by rfl) (by simp -implicitDefEqProofs [hc, g13, g18] <;> rfl) ?_
            refine WpO.run tabOk 3 (by simp -implicitDefEqProofs [hc, g13, g18] <;> first | exact ⟨rfl, rfl⟩ | rfl) ?_
            refine WpO.splitB 23 (by simp -implicitDefEqProofs [hc, g13, g18] <;> rfl) (by rfl) (fun g23 => ?_) (fun g23 => ?_)
            · try (exfalso; revert g23; simp; done)
              all_goals
                have g23' := g23; first | simp only [dT, dF] at g23' | try simp at g23'
                refine WpO.run tabOk 23 (by simp -implicitDefEqProofs [hc, g13, g18, g23] <;> first | exact ⟨rfl, rfl⟩ | rfl) ?_
                refine WpO.nil ?_
                refine ⟨rfl, Gh.only 46 40 ?_ (by first | rfl | simp -implicitDefEqProofs [hc, g13, g18, g23]) (by rfl)⟩
                all_goals (clear r1 r2 r3 hbad hgood hc2 hc; first | (simp_all; done) | (simp_all; omega) | omega)
            · try (exfalso; revert g23; simp; done)
              all_goals
                have g23' := g23; first | simp only [dT, dF] at g23' | try simp at g23'
                refine WpO.run tabOk 3 (by simp -implicitDefEqProofs [hc, g13, g18, g23] <;> first | exact ⟨rfl, rfl⟩ | rfl) ?_
                refine WpO.splitB 26 (by simp -implicitDefEqProofs [hc, g13, g18, g23] <;> rfl) (by rfl) (fun g26 => ?_) (fun g26 => ?_)
                · try (exfalso; revert g26; simp; done)
                  all_goals
                    have g26' := g26; first | simp only [dT, dF] at g26' | try simp at g26'
                    refine WpO.run tabOk 4 (by simp -implicitDefEqProofs [hc, g13, g18, g23, g26] <;> first | exact ⟨rfl, rfl⟩ | rfl) ?_
                    refine WpO.splitB 30 (by simp -implicitDefEqProofs [hc, g13, g18, g23, g26] <;> rfl) (by rfl) (fun g30 => ?_) (fun g30 => ?_)
                    · try (exfalso; revert g30; simp; done)
                      all_goals
                        have g30' := g30; first | simp only [dT, dF] at g30' | try simp at g30'
                        refine WpO.run tabOk 5 (by simp -implicitDefEqProofs [hc, g13, g18, g23, g26, g30] <;> first | exact ⟨rfl, rfl⟩ | rfl) ?_
                        refine WpO.splitB 35 (by simp -implicitDefEqProofs [hc, g13, g18, g23, g26, g30] <;> rfl) (by rfl) (fun g35 => ?_) (fun g35 => ?_)
                        · try (exfalso; revert g35; simp; done)
                          all_goals
                            have g35' := g35; first | simp only [dT, dF] at g35' | try simp at g35'
                            refine WpO.run tabOk 11 (by simp -implicitDefEqProofs [hc, g13, g18, g23, g26, g30, g35] <;> first | exact ⟨rfl, rfl⟩ | rfl) ?_
                            refine WpO.nil ?_
                            refine ⟨rfl, Gh.only 46 43 ?_ (by first | rfl | simp -implicitDefEqProofs [hc, g13, g18, g23, g26, g30, g35]) (by rfl)⟩
                            all_goals (clear r1 r2 r3 hbad hgood hc2 hc; first | (simp_all; done) | (simp_all; omega) | omega)
                        · try (exfalso; revert g35; simp; done)
                          all_goals
                            have g35' := g35; first | simp only [dT, dF] at g35' | try simp at g35'
                            refine WpO.run tabOk 3 (by simp -implicitDefEqProofs [hc, g13, g18, g23, g26, g30, g35] <;> first | exact ⟨rfl, rfl⟩ | rfl) ?_
                            refine WpO.splitB 38 (by simp -implicitDefEqProofs [hc, g13, g18, g23, g26, g30, g35] <;> rfl) (by rfl) (fun g38 => ?_) (fun g38 => ?_)
                            · try (exfalso; revert g38; simp; done)
                              all_goals
                                have g38' := g38; first | simp only [dT, dF] at g38' | try simp at g38'
                                refine WpO.run tabOk 4 (by simp -implicitDefEqProofs [hc, g13, g18, g23, g26, g30, g35, g38] <;> first | exact ⟨rfl, rfl⟩ | rfl) ?_
                                refine WpO.splitB 42 (by simp -implicitDefEqProofs [hc, g13, g18, g23, g26, g30, g35, g38] <;> rfl) (by rfl) (fun g42 => ?_) (fun g42 => ?_)
                                · try (exfalso; revert g42; simp; done)
                                  all_goals
                                    have g42' := g42; first | simp only [dT, dF] at g42' | try simp at g42'
                                    refine WpO.run tabOk 4 (by simp -implicitDefEqProofs [hc, g13, g18, g23, g26, g30, g35, g38, g42] <;> first | exact ⟨rfl, rfl⟩ | rfl) ?_
                                    refine WpO.nil ?_
                                    refine ⟨rfl, Gh.only 46 45 ?_ (by first | rfl | simp -implicitDefEqProofs [hc, g13, g18, g23, g26, g30, g35, g38, g42]) (by rfl)⟩
                                    all_goals (clear r1 r2 r3 hbad hgood hc2 hc; first | (simp_all; done) | (simp_all; omega) | omega)
                                · try (exfalso; revert g42; simp; done)
                                  all_goals
                                    have g42' := g42; first | simp only [dT, dF] at g42' | try simp at g42'
                                    refine WpO.run tabOk 4 (by simp -implicitDefEqProofs [hc, g13, g18, g23, g26, g30, g35, g38, g42] <;> first | exact ⟨rfl, rfl⟩ | rfl) ?_
                                    refine WpO.nil ?_
                                    refine ⟨rfl, Gh.only 46 45 ?_ (by first | rfl | simp -implicitDefEqProofs [hc, g13, g18, g23, g26, g30, g35, g38, g42]) (by rfl)⟩
                                    all_goals (clear r1 r2 r3 hbad hgood hc2 hc; first | (simp_all; done) | (simp_all; omega) | omega)
                            · try (exfalso; revert g38; simp; done)
                              all_goals
                                have g38' := g38; first | simp only [dT, dF] at g38' | try simp at g38'
                                refine WpO.run tabOk 8 (by simp -implicitDefEqProofs [hc, g13, g18, g23, g26, g30, g35, g38] <;> first | exact ⟨rfl, rfl⟩ | rfl) ?_
                                refine WpO.nil ?_
                                refine ⟨rfl, Gh.only 46 44 ?_ (by first | rfl | simp -implicitDefEqProofs [hc, g13, g18, g23, g26, g30, g35, g38]) (by rfl)⟩
                                all_goals (clear r1 r2 r3 hbad hgood hc2 hc; first | (simp_all; done) | (simp_all; omega) | omega)
                    · try (exfalso; revert g30; simp; done)
                      all_goals
                        have g30' := g30; first | simp only [dT, dF] at g30' | try simp at g30'
                        refine WpO.run tabOk 8 (by simp -implicitDefEqProofs [hc, g13, g18, g23, g26, g30] <;> first | exact ⟨rfl, rfl⟩ | rfl) ?_
                        refine WpO.splitB 38 (by simp -implicitDefEqProofs [hc, g13, g18, g23, g26, g30] <;> rfl) (by rfl) (fun g38 => ?_) (fun g38 => ?_)
                        · try (exfalso; revert g38; simp; done)
                          all_goals
                            have g38' := g38; first | simp only [dT, dF] at g38' | try simp at g38'
                            refine WpO.run tabOk 4 (by simp -implicitDefEqProofs [hc, g13, g18, g23, g26, g30, g38] <;> first | exact ⟨rfl, rfl⟩ | rfl) ?_
                            refine WpO.splitB 42 (by simp -implicitDefEqProofs [hc, g13, g18, g23, g26, g30, g38] <;> rfl) (by rfl) (fun g42 => ?_) (fun g42 => ?_)
                            · try (exfalso; revert g42; simp; done)
                              all_goals
                                have g42' := g42; first | simp only [dT, dF] at g42' | try simp at g42'
                                refine WpO.run tabOk 4 (by simp -implicitDefEqProofs [hc, g13, g18, g23, g26, g30, g38, g42] <;> first | exact ⟨rfl, rfl⟩ | rfl) ?_
                                refine WpO.nil ?_
                                refine ⟨rfl, Gh.only 46 44 ?_ (by first | rfl | simp -implicitDefEqProofs [hc, g13, g18, g23, g26, g30, g38, g42]) (by rfl)⟩
                                all_goals (clear r1 r2 r3 hbad hgood hc2 hc; first | (simp_all; done) | (simp_all; omega) | omega)
                            · try (exfalso; revert g42; simp; done)
                              all_goals
                                have g42' := g42; first | simp only [dT, dF] at g42' | try simp at g42'
                                refine WpO.run tabOk 4 (by simp -implicitDefEqProofs [hc, g13, g18, g23, g26, g30, g38, g42] <;> first | exact ⟨rfl, rfl⟩ | rfl) ?_
                                refine WpO.nil ?_
                                refine ⟨rfl, Gh.only 46 44 ?_ (by first | rfl | simp -implicitDefEqProofs [hc, g13, g18, g23, g26, g30, g38, g42]) (by rfl)⟩
                                all_goals (clear r1 r2 r3 hbad hgood hc2 hc; first | (simp_all; done) | (simp_all; omega) | omega)
                        · try (exfalso; revert g38; simp; done)
                          all_goals
                            have g38' := g38; first | simp only [dT, dF] at g38' | try simp at g38'
                            refine WpO.run tabOk 8 (by simp -implicitDefEqProofs [hc, g13, g18, g23, g26, g30, g38] <;> first | exact ⟨rfl, rfl⟩ | rfl) ?_
                            refine WpO.nil ?_
                            refine ⟨rfl, Gh.only 46 43 ?_ (by first | rfl | simp -implicitDefEqProofs [hc, g13, g18, g23, g26, g30, g38]) (by rfl)⟩
                            all_goals (clear r1 r2 r3 hbad hgood hc2 hc; first | (simp_all; done) | (simp_all; omega) | omega)
                · try (exfalso; revert g26; simp; done)
                  all_goals
                    have g26' := g26; first | simp only [dT, dF] at g26' | try simp at g26'
                    refine WpO.run tabOk 12 (by simp -implicitDefEqProofs [hc, g13, g18, g23, g26] <;> first | exact ⟨rfl, rfl⟩ | rfl) ?_
                    refine WpO.splitB 38 (by simp -implicitDefEqProofs [hc, g13, g18, g23, g26] <;> rfl) (by rfl) (fun g38 => ?_) (fun g38 => ?_)
                    · try (exfalso; revert g38; simp; done)
                      all_goals
                        have g38' := g38; first | simp only [dT, dF] at g38' | try simp at g38'
                        refine WpO.run tabOk 4 (by simp -implicitDefEqProofs [hc, g13, g18, g23, g26, g38] <;> first | exact ⟨rfl, rfl⟩ | rfl) ?_
                        refine WpO.splitB 42 (by simp -implicitDefEqProofs [hc, g13, g18, g23, g26, g38] <;> rfl) (by rfl) (fun g42 => ?_) (fun g42 => ?_)
                        · try (exfalso; revert g42; simp; done)
                          all_goals
                            have g42' := g42; first | simp only [dT, dF] at g42' | try simp at g42'
                            refine WpO.run tabOk 4 (by simp -implicitDefEqProofs [hc, g13, g18, g23, g26, g38, g42] <;> first | exact ⟨rfl, rfl⟩ | rfl) ?_
                            refine WpO.nil ?_
                            refine ⟨rfl, Gh.only 46 43 ?_ (by first | rfl | simp -implicitDefEqProofs [hc, g13, g18, g23, g26, g38, g42]) (by rfl)⟩
                            all_goals (clear r1 r2 r3 hbad hgood hc2 hc; first | (simp_all; done) | (simp_all; omega) | omega)
                        · try (exfalso; revert g42; simp; done)
                          all_goals
                            have g42' := g42; first | simp only [dT, dF] at g42' | try simp at g42'
                            refine WpO.run tabOk 4 (by simp -implicitDefEqProofs [hc, g13, g18, g23, g26, g38, g42] <;> first | exact ⟨rfl, rfl⟩ | rfl) ?_
                            refine WpO.nil ?_
                            refine ⟨rfl, Gh.only 46 43 ?_ (by first | rfl | simp -implicitDefEqProofs [hc, g13, g18, g23, g26, g38, g42]) (by rfl)⟩
                            all_goals (clear r1 r2 r3 hbad hgood hc2 hc; first | (simp_all; done) | (simp_all; omega) | omega)
                    · try (exfalso; revert g38; simp; done)
                      all_goals
                        have g38' := g38; first | simp only [dT, dF] at g38' | try simp at g38'
                        refine WpO.run tabOk 8 (by simp -implicitDefEqProofs [hc, g13, g18, g23, g26, g38] <;> first | exact ⟨rfl, rfl⟩ | rfl) ?_
                        refine WpO.nil ?_
                        refine ⟨rfl, Gh.only 46 42 ?_ (by first | rfl | simp -implicitDefEqProofs [hc, g13, g18, g23, g26, g38]) (by rfl)⟩
                        all_goals (clear r1 r2 r3 hbad hgood hc2 hc; first | (simp_all; done) | (simp_all; omega) | omega)
  refine WpC.condD (¬ -9223372036854775807 ≤ a ∨ ¬ -9223372036854775807 ≤ b ∨ ¬ -9223372036854775807 ≤ c ∨ (0 < a ∧ 0 < b ∧ c < 0) ∨ (a < 0 ∧ b < 0 ∧ 0 ≤ c)) (by simp -implicitDefEqProofs [hc]) (fun d46 => ?_) (fun d46 => ?_)
  · refine WpC.seq (WpC.ops tabOk (r := []) (by simp -implicitDefEqProofs [hc, d46] <;> rfl) rfl ?_)
    refine WpC.ret ?_
    try simp only [blockQ, seqQ]
    refine retD_i (by simp -implicitDefEqProofs [hc, d46] <;> rfl) (by simp -implicitDefEqProofs [hc, d46] <;> rfl) ?_
    simp [hbad.1 d46]
  · refine WpC.skip ?_
    refine WpC.seq (WpC.ops tabOk (r := []) (by simp -implicitDefEqProofs [hc, d46] <;> rfl) rfl ?_)
    refine WpC.ret ?_
    try simp only [blockQ, seqQ]
    refine retD_i (by simp -implicitDefEqProofs [hc, d46] <;> rfl) (by simp -implicitDefEqProofs [hc, d46] <;> rfl) ?_
    have hg : addB a b = true := by cases h : addB a b with | true => rfl | false => exact absurd (hbad.2 h) d46
    simp [hg, hgood hg]

theorem sum_take {l : List Int} {k : Nat} (h : k < l.length) : (l.take (k + 1)).sum = (l.take k).sum + l[k] := by
  rw [List.take_add_one, List.getElem?_eq_getElem h]
  simp only [Option.toList_some, List.sum_append, List.sum_cons, List.sum_nil]
  omega
theorem sum_nonneg : ∀ {l : List Int}, (∀ x ∈ l, 0 ≤ x) → 0 ≤ l.sum
  | [], _ => by simp
  | x :: l, h => by
    have h1 := h x (by simp)
    have h2 := sum_nonneg (l := l) fun y hy => h y (by simp [hy])
    rw [List.sum_cons]; omega
theorem sum_take_le {l : List Int} (h : ∀ x ∈ l, 0 ≤ x) (k : Nat) : (l.take k).sum ≤ l.sum := by
  have e : l.sum = (l.take k).sum + (l.drop k).sum := by rw [← List.sum_append, List.take_append_drop]
  have := sum_nonneg (l := l.drop k) fun x hx => h x (List.mem_of_mem_drop hx)
  omega
def sumB (l : List Int) : Bool := decide (l.sum ≤ 9223372036854775807)
theorem sumM_ok (l : List Int) (h : ∀ x ∈ l, inN x) (hl : l.length ≤ 1000000) : Gives Try.prog 30 [.d (.list 1 (l.map dI))] (.tup [.d (dI (if sumB l = true then l.sum else 0)), .d (dI (if sumB l = true then 0 else 3))]) := by
  have h0 : ∀ x ∈ l, 0 ≤ x := fun x hx => (h x hx).1
  refine Gives.enter tabOk Try.func30 rfl (by show 1 ≤ 27; decide) ?_
  simp only [Try.f30]
  refine WpC.seq (WpC.ops tabOk (r := []) (by simp -implicitDefEqProofs <;> rfl) rfl ?_)
  refine WpC.seq (WpC.ops tabOk (r := []) (by simp -implicitDefEqProofs <;> rfl) rfl ?_)
  refine WpC.seq ?_
  refine WpC.seq (WpC.ops tabOk (r := []) (by simp -implicitDefEqProofs <;> rfl) rfl ?_)
  refine WpC.block ?_
  refine WpC.loopK [9, 10] [4, 11] (l.length) (() : Unit) (fun k _ => [(4, .d (dI (l.take k).sum)), (11, .d (.int .i64 k))]) (fun k _ => []) (fun k _ => (l.take k).sum ≤ 9223372036854775807) (by simp -implicitDefEqProofs <;> rfl) (Gh.cut' [4, 11, 9, 10] 0 (by simp -implicitDefEqProofs) (by simp -implicitDefEqProofs) rfl (by simp) (by simp) (by simp)) (by simp) ?_
  rintro k ⟨⟩ hk hi
  simp only [List.cons_append, List.nil_append]
  refine WpC.seq (WpC.ops tabOk (r := []) (by simp -implicitDefEqProofs <;> rfl) rfl ?_)
  refine WpC.seq (WpC.condD (k < l.length) (by simp -implicitDefEqProofs <;> omega) (fun hlt => ?_) (fun hge => ?_))
  · refine WpC.skip ?_
    have hst := sum_take hlt
    obtain ⟨x, hx⟩ : ∃ x, l[k] = x := ⟨_, rfl⟩
    have hxn := h x (hx ▸ List.getElem_mem hlt)
    have hw : IntKind.i64.wrap ((k : Int) + 1) = k + 1 := wrapI (by omega) (by omega)
    have hs0 := sum_nonneg (l := l.take k) fun y hy => h0 y (List.mem_of_mem_take hy)
    obtain ⟨s, hs⟩ : ∃ s, (l.take k).sum = s := ⟨_, rfl⟩
    rw [hs, hx] at hst
    rw [hs] at hs0 hi
    unfold inN at hxn
    have ha := addM_ok s x (by unfold in64; omega) (by unfold in64; omega)
    obtain ⟨ab, hab⟩ : ∃ b, addB s x = b := ⟨_, rfl⟩
    have hab2 : ab = decide (s + x ≤ 9223372036854775807) := by rw [← hab]; unfold addB; congr 1; exact propext ⟨fun q => by omega, fun q => by omega⟩
    rw [hab] at ha
    refine WpC.seq ?_
    refine WpC.block ?_
    refine WpC.seq (WpC.ops tabOk (r := []) (by simp -implicitDefEqProofs [hlt, hx, hw, hs] <;> rfl) rfl ?_)
    refine WpC.seq ?_
    refine WpC.region ?_
    refine WpO.run tabOk 2 (by simp -implicitDefEqProofs [hlt, hx, hw, hs] <;> first | exact ⟨rfl, rfl⟩ | rfl) ?_
    refine WpO.data (by simp) rfl (by simp -implicitDefEqProofs [hlt, hx, hw, hs] <;> rfl) (by simp -implicitDefEqProofs [hlt, hx, hw, hs] <;> rfl) (by simp -implicitDefEqProofs [hlt, hx, hw, hs] <;> rfl) call_43 (by simp) (ha) (by rfl) (by simp -implicitDefEqProofs [hlt, hx, hw, hs] <;> rfl) ?_
    refine WpO.run tabOk 5 (by simp -implicitDefEqProofs [hlt, hx, hw, hs] <;> first | exact ⟨rfl, rfl⟩ | rfl) ?_
    refine WpO.nil ?_
    refine WpC.seq ?_
    refine WpC.seq (WpC.ops tabOk (r := []) (by simp -implicitDefEqProofs [hlt, hx, hw, hs] <;> rfl) rfl ?_)
    refine WpC.condR (by simp -implicitDefEqProofs [hlt, hx, hw, hs] <;> rfl) (by rfl) (fun c22 => ?_) (fun c22 => ?_)
    · have c22' := c22; first | simp only [dT, dF] at c22' | try simp at c22'
      refine WpC.seq (WpC.ops tabOk (r := []) (by simp -implicitDefEqProofs [hlt, hx, hw, hs, c22] <;> rfl) rfl ?_)
      refine WpC.ret ?_
      try simp only [blockQ, seqQ]
      refine retD_i (by simp -implicitDefEqProofs [hlt, hx, hw, hs, c22] <;> rfl) (by simp -implicitDefEqProofs [hlt, hx, hw, hs, c22] <;> rfl) ?_
      have habf : ab = false := by simpa using c22
      have hbig : ¬ (l.take (k + 1)).sum ≤ 9223372036854775807 := by rw [hst]; rw [hab2] at habf; simpa using habf
      have := sum_take_le h0 (k + 1)
      have hsb : sumB l = false := decide_eq_false (by omega)
      simp [hsb, habf]
    · have c22' := c22; first | simp only [dT, dF] at c22' | try simp at c22'
      have habt : ab = true := by simpa using c22
      refine WpC.skip ?_
      refine WpC.ops tabOk (r := []) (by simp -implicitDefEqProofs [hlt, hx, hw, hs, c22, habt] <;> rfl) rfl ?_
      refine WpC.ops tabOk (r := []) (by simp -implicitDefEqProofs [hlt, hx, hw, hs, c22, habt] <;> rfl) rfl ?_
      exact ⟨hlt, (), by rw [hst]; simp at c22; rw [hab2] at c22; simpa using c22, Gh.cut' [4, 11, 9, 10] 0 (by simp -implicitDefEqProofs [hlt, hx, hw, hs, c22, habt, c22', hst]) (by simp) rfl (by simp) (by simp) (by simp)⟩
  · refine WpC.exit ?_
    have hkn : k = l.length := by omega
    subst hkn
    rw [List.take_of_length_le (Nat.le_refl _)] at hi
    refine WpC.seq (WpC.ops tabOk (r := []) (by simp -implicitDefEqProofs <;> rfl) rfl ?_)
    refine WpC.ret ?_
    try simp only [blockQ, seqQ]
    refine retD_i (by simp -implicitDefEqProofs <;> rfl) (by simp -implicitDefEqProofs <;> rfl) ?_
    have hsb : sumB l = true := decide_eq_true hi
    simp [hsb]

theorem neg_ok (w : Int) : Gives Try.prog 29 [.d (dI w)] (.d (.bool (decide (w < 0)))) := by
  refine Gives.enter tabOk Try.func29 rfl (by show 1 ≤ 5; decide) ?_
  simp only [Try.f29]
  refine WpC.seq (WpC.ops tabOk (r := []) (by simp -implicitDefEqProofs <;> rfl) rfl ?_)
  refine WpC.seq (WpC.ops tabOk (r := []) (by simp -implicitDefEqProofs <;> rfl) rfl ?_)
  refine WpC.ret ?_
  try simp only [blockQ, seqQ]
  refine retD_i (by simp -implicitDefEqProofs <;> rfl) (by simp -implicitDefEqProofs <;> rfl) ?_
  simp -implicitDefEqProofs
theorem find_take {α : Type} (f : α → Bool) {l : List α} {k : Nat} (h : k < l.length) (h0 : (l.take k).any f = false) (h1 : f l[k] = true) : l.findIdx? f = some k := by
  rw [List.findIdx?_eq_some_iff_getElem]
  refine ⟨h, h1, fun j hj => ?_⟩
  rw [List.any_eq_false] at h0
  refine h0 _ ?_
  rw [List.mem_take_iff_getElem]
  exact ⟨j, by omega, rfl⟩
def idxP {α : Type} (f : α → Bool) (l : List α) : Int := match l.findIdx? f with | some i => i | none => -1
theorem indexI_ok (l : List Int) (hl : l.length ≤ 1000000000) : Gives Try.prog 42 [.d (.list 1 (l.map dI)), .fn 29 []] (.d (dI (idxP (fun w => decide (w < 0)) l))) := by
  obtain ⟨f, hf⟩ : ∃ f : Int → Bool, (fun x : Int => decide (x < 0)) = f := ⟨_, rfl⟩
  have hff : ∀ x : Int, decide (x < 0) = f x := fun x => by rw [← hf]
  rw [hf]
  refine Gives.enter tabOk Try.func42 rfl (by show 2 ≤ 19; decide) ?_
  simp only [Try.f42]
  refine WpC.seq (WpC.ops tabOk (r := []) (by simp -implicitDefEqProofs <;> rfl) rfl ?_)
  refine WpC.seq ?_
  refine WpC.seq (WpC.ops tabOk (r := []) (by simp -implicitDefEqProofs <;> rfl) rfl ?_)
  refine WpC.block ?_
  refine WpC.loopK [0, 1, 7] [8] (l.length) (() : Unit) (fun k _ => [(8, .d (.int .i64 k))]) (fun k _ => []) (fun k _ => (l.take k).any f = false) (by simp -implicitDefEqProofs <;> rfl) (Gh.cut' [8, 0, 1, 7] 0 (by simp -implicitDefEqProofs) (by simp -implicitDefEqProofs) rfl (by simp) (by simp) (by simp)) (by simp) ?_
  rintro k ⟨⟩ hk hi
  simp only [List.cons_append, List.nil_append]
  refine WpC.seq (WpC.ops tabOk (r := []) (by simp -implicitDefEqProofs <;> rfl) rfl ?_)
  refine WpC.seq (WpC.condD (k < l.length) (by simp -implicitDefEqProofs <;> omega) (fun hlt => ?_) (fun hge => ?_))
  · refine WpC.skip ?_
    have hst := any_take f hlt
    obtain ⟨x, hx⟩ : ∃ x, l[k] = x := ⟨_, rfl⟩
    have hw : IntKind.i64.wrap ((k : Int) + 1) = k + 1 := wrapI (by omega) (by omega)
    have hfi := find_take f hlt hi
    rw [hi, hx] at hst
    rw [hx] at hfi
    refine WpC.seq ?_
    refine WpC.block ?_
    refine WpC.seq (WpC.ops tabOk (r := []) (by simp -implicitDefEqProofs [hlt, hx, hw] <;> rfl) rfl ?_)
    refine WpC.seq ?_
    refine WpC.region ?_
    refine WpO.run tabOk 5 (by simp -implicitDefEqProofs [hlt, hx, hw] <;> first | exact ⟨rfl, rfl⟩ | rfl) ?_
    refine WpO.data (by simp) rfl (by simp -implicitDefEqProofs [hlt, hx, hw] <;> rfl) (by simp -implicitDefEqProofs [hlt, hx, hw] <;> rfl) (by simp -implicitDefEqProofs [hlt, hx, hw] <;> rfl) call_29 (by simp) (neg_ok x) (by rfl) (by simp -implicitDefEqProofs [hlt, hx, hw] <;> rfl) ?_
    refine WpO.nil ?_
    refine WpC.condR (by simp -implicitDefEqProofs [hlt, hx, hw] <;> rfl) (by rfl) (fun c16 => ?_) (fun c16 => ?_)
    · have c16' := c16; first | simp only [dT, dF] at c16' | try simp at c16'
      refine WpC.seq (WpC.ops tabOk (r := []) (by simp -implicitDefEqProofs [hlt, hx, hw, c16] <;> rfl) rfl ?_)
      refine WpC.ret ?_
      try simp only [blockQ, seqQ]
      refine retD_i (by simp -implicitDefEqProofs [hlt, hx, hw, c16] <;> rfl) (by simp -implicitDefEqProofs [hlt, hx, hw, c16] <;> rfl) ?_
      have := hfi (by rw [← hff]; simpa using c16)
      simp [idxP, this]
    · have c16' := c16; first | simp only [dT, dF] at c16' | try simp at c16'
      refine WpC.skip ?_
      refine WpC.ops tabOk (r := []) (by simp -implicitDefEqProofs [hlt, hx, hw, c16] <;> rfl) rfl ?_
      exact ⟨hlt, (), by rw [hst, ← hff]; simpa using c16, Gh.cut' [8, 0, 1, 7] 0 (by simp -implicitDefEqProofs [hlt, hx, hw, c16, c16']) (by simp) rfl (by simp) (by simp) (by simp)⟩
  · refine WpC.exit ?_
    have hkn : k = l.length := by omega
    subst hkn
    rw [List.take_of_length_le (Nat.le_refl _)] at hi
    refine WpC.seq (WpC.ops tabOk (r := []) (by simp -implicitDefEqProofs <;> rfl) rfl ?_)
    refine WpC.ret ?_
    try simp only [blockQ, seqQ]
    refine retD_i (by simp -implicitDefEqProofs <;> rfl) (by simp -implicitDefEqProofs <;> rfl) ?_
    have : l.findIdx? f = none := by rw [List.findIdx?_eq_none_iff]; simpa using hi
    simp [idxP, this]
theorem idxP_any {α : Type} (f : α → Bool) (l : List α) : decide (0 ≤ idxP f l) = l.any f := by
  unfold idxP
  cases h : l.findIdx? f with
  | none => rw [List.findIdx?_eq_none_iff] at h; symm; simpa using h
  | some i =>
    rw [List.findIdx?_eq_some_iff_getElem] at h
    obtain ⟨h1, h2, _⟩ := h
    have : l.any f = true := by rw [List.any_eq_true]; exact ⟨_, List.getElem_mem h1, h2⟩
    simp [this]
theorem containsI_ok (l : List Int) (hl : l.length ≤ 1000000000) : Gives Try.prog 28 [.d (.list 1 (l.map dI)), .fn 29 []] (.d (.bool (l.any fun w => decide (w < 0)))) := by
  refine Gives.enter tabOk Try.func28 rfl (by show 2 ≤ 9; decide) ?_
  simp only [Try.f28]
  refine WpC.seq (WpC.ops tabOk (r := []) (by simp -implicitDefEqProofs <;> rfl) rfl ?_)
  refine WpC.seq ?_
  refine WpC.region ?_
  refine WpO.run tabOk 2 (by simp -implicitDefEqProofs <;> first | exact ⟨rfl, rfl⟩ | rfl) ?_
  refine WpO.data (by simp) rfl (by simp -implicitDefEqProofs <;> rfl) (by simp -implicitDefEqProofs <;> rfl) (by simp -implicitDefEqProofs <;> rfl) call_42 (by simp) (indexI_ok l hl) (by rfl) (by simp -implicitDefEqProofs <;> rfl) ?_
  refine WpO.run tabOk 2 (by simp -implicitDefEqProofs <;> first | exact ⟨rfl, rfl⟩ | rfl) ?_
  refine WpO.nil ?_
  refine WpC.ret ?_
  try simp only [blockQ, seqQ]
  refine retD_i (by simp -implicitDefEqProofs <;> rfl) (by simp -implicitDefEqProofs <;> rfl) ?_
  simp [← idxP_any]
/-- A function that hands back a row of its own. -/
def GivesRow (P : Program) (f : FuncId) (args : List FV) (e k : Nat) (xs : List D) : Prop := WpF P f args [] fun r S => r = .sl 0 xs.length ∧ S = [.arr e k xs]
theorem cloneI_ok (xs : List D) (hl : xs.length ≤ 1000000000) : GivesRow Try.prog 32 [.d (.list 1 xs)] 3 1 xs := by
  refine WpF.enter tabOk Try.func32 rfl (by show 1 ≤ 8; decide) ?_
  simp only [Try.f32]
  refine WpC.seq (WpC.ops tabOk (r := []) (by simp -implicitDefEqProofs <;> rfl) rfl ?_)
  refine WpC.seq ?_
  refine WpC.seq ?_
  refine WpC.region ?_
  refine WpO.run tabOk 1 (by simp <;> first | exact ⟨rfl, rfl⟩ | rfl) ?_
  refine WpO.nilEq (k := 1) (xs := xs) tabOk (by simp) rfl (by simp; rfl) rfl (by simp) fun b hb => ⟨_, by simp; rfl, WpO.nil ?_⟩
  refine WpC.condR (by simp -implicitDefEqProofs <;> rfl) (by rfl) (fun c4 => ?_) (fun c4 => ?_)
  · have c4' := c4; first | simp only [dT, dF] at c4' | try simp at c4'
    refine WpC.seq (WpC.ops tabOk (r := []) (by simp -implicitDefEqProofs [c4] <;> rfl) rfl ?_)
    have := hb c4
    subst this
    refine WpC.gh (Gh.nilArr 3 1 (t := 2) (by simp) (by simp)) ?_
    refine WpC.gh (Gh.pick [2] [0] (by simp; rfl) (env' := [(2, .sl 0 0)]) (by simp) (by simp) (by simp) (by simp; rfl) (S' := [.arr 3 1 []]) (by simp) (by simp)) (WpC.ret ?_)
    simp
  · have c4' := c4; first | simp only [dT, dF] at c4' | try simp at c4'
    have hsm : xs.length ≤ 8589934592 := by omega
    refine WpC.skip ?_
    refine WpC.seq (WpC.ops tabOk (r := []) (by simp -implicitDefEqProofs [c4, hsm] <;> rfl) rfl ?_)
    refine WpC.gh (Gh.pick [2] [1] (by simp; rfl) (env' := [(2, .sl 0 xs.length)]) (by simp) (by simp) (by simp) (by simp; rfl) (S' := [.arr 3 1 xs]) (by simp) (by simp)) (WpC.ret ?_)
    simp
end Go.Proofs.Ytaobnhenjldjeaa.Pay
