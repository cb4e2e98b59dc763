/- slices.Insert at the rows of the master. No statement of the seed is proved here. -/
import Derived.Test.YtndofikacmhejaaMaD
namespace Go.Proofs.Ytndofikacmhejaa.Pay
open Go Go.RowKit
set_option linter.unusedVariables false
set_option linter.unusedSimpArgs false

theorem ins_grow {α : Type} {xs Y W : List α} {x : α} {i : Nat} (hi : i < xs.length) (hY : xs.take i ++ x :: W = Y) (hl : Y.length = xs.length + 1) : Y.take (i + 1) ++ (xs.drop i ++ Y.drop (i + 1 + (xs.length - i))) = xs.take i ++ x :: xs.drop i := by
  have e1 : (xs.take i ++ [x]).length = i + 1 := by simp; omega
  have e2 : Y.take (i + 1) = xs.take i ++ [x] := by
    rw [← hY, show xs.take i ++ x :: W = (xs.take i ++ [x]) ++ W from by simp]
    exact List.take_left' e1
  have e3 : Y.drop (i + 1 + (xs.length - i)) = [] := List.drop_of_length_le (by omega)
  rw [e2, e3]
  simp
theorem ins_room {α : Type} {xs Y : List α} {x : α} {i : Nat} (hi : i < xs.length) (hY : xs.take (i + 1) ++ (xs.drop i ++ xs.drop (i + 1 + (xs.length - i))) = Y) : Y.take i ++ x :: Y.drop (i + 1) = xs.take i ++ x :: xs.drop i := by
  have e1 : (xs.take (i + 1)).length = i + 1 := by simp; omega
  have e2 : Y.drop (i + 1) = xs.drop i := by
    rw [← hY, List.drop_left' e1, List.drop_of_length_le (show xs.length ≤ i + 1 + (xs.length - i) by omega)]
    simp
  have e3 : Y.take i = xs.take i := by
    rw [← hY, List.take_append_of_le_length (by omega), List.take_take, Nat.min_eq_left (by omega)]
  rw [e2, e3]

set_option maxHeartbeats 1000000 in
theorem insertP_ok (xs : List D) (x : D) (i : Nat) (hi : i ≤ xs.length) (hl : xs.length ≤ 1000000000) : WpF Try.prog 37 [.sl 0 xs.length, .d (.int .i64 i), .sl 1 1] [.arr 68 5 xs, .arr 68 5 [x]]
    (fun r S => r = .sl 2 (xs.length + 1) ∧ S = [.gone, .gone, .arr 68 5 (xs.take i ++ x :: xs.drop i)]) := by
  refine WpF.row ?_ 2
  have hsm : xs.length ≤ 8589934591 := by omega
  have hsm2 : xs.length + 1 ≤ 8589934592 := by omega
  have hw1 : IntKind.i64.wrap ((xs.length : Int) + 1) = (xs.length : Int) + 1 := by rw [IntKind.wrap_i64]; omega
  have hw2 : IntKind.i64.wrap ((xs.length : Int) + 1 - i) = (xs.length : Int) + 1 - i := by rw [IntKind.wrap_i64]; omega
  have hw3 : IntKind.i64.wrap ((i : Int) + 1) = (i : Int) + 1 := by rw [IntKind.wrap_i64]; omega
  have hz0 : (0 : Int) < (xs.length : Int) + 1 - i := by omega
  have hz0' : (i : Int) < (xs.length : Int) + 1 := by omega
  have hz1 : ((xs.length : Int) + 1 - i).toNat = xs.length + 1 - i := by omega
  have hz2 : i + (xs.length + 1 - i) = xs.length + 1 := by omega
  have hm0 : min i xs.length = i := by omega
  have hm1 : min 1 (xs.length + 1 - i) = 1 := by omega
  have hi1 : i ≤ xs.length + 1 := by omega
  have h01 : (0 : Int) ≤ (xs.length : Int) + 1 := by omega
  have h02 : (0 : Int) ≤ (i : Int) + 1 := by omega
  refine WpF.enter tabOk Try.func37 rfl (by show 3 ≤ 95; decide) ?_
  simp only [Try.f37]
  refine WpC.seq (WpC.ops tabOk (r := []) (by simp -implicitDefEqProofs [hi, hsm, hsm2, hw1, hw2, hw3, hz0, hz0', hz1, hz2, hm0, hm1, hi1, h01, h02] <;> rfl) rfl ?_)
  refine WpC.seq (WpC.ops tabOk (r := []) (by simp -implicitDefEqProofs [hi, hsm, hsm2, hw1, hw2, hw3, hz0, hz0', hz1, hz2, hm0, hm1, hi1, h01, h02] <;> rfl) rfl ?_)
  refine WpC.seq (WpC.ops tabOk (r := []) (by simp -implicitDefEqProofs [hi, hsm, hsm2, hw1, hw2, hw3, hz0, hz0', hz1, hz2, hm0, hm1, hi1, h01, h02] <;> rfl) rfl ?_)
  refine WpC.seq ?_
  refine WpC.seq (WpC.ops tabOk (r := []) (by simp -implicitDefEqProofs [hi, hsm, hsm2, hw1, hw2, hw3, hz0, hz0', hz1, hz2, hm0, hm1, hi1, h01, h02] <;> rfl) rfl ?_)
  refine WpC.condF (by simp -implicitDefEqProofs [hi, hsm, hsm2, hw1, hw2, hw3, hz0, hz0', hz1, hz2, hm0, hm1, hi1, h01, h02] <;> rfl) ?_
  refine WpC.skip ?_
  refine WpC.seq (WpC.ops tabOk (r := []) (by simp -implicitDefEqProofs [hi, hsm, hsm2, hw1, hw2, hw3, hz0, hz0', hz1, hz2, hm0, hm1, hi1, h01, h02] <;> rfl) rfl ?_)
  refine WpC.seq ?_
  refine WpC.seq (WpC.ops tabOk (r := []) (by simp -implicitDefEqProofs [hi, hsm, hsm2, hw1, hw2, hw3, hz0, hz0', hz1, hz2, hm0, hm1, hi1, h01, h02] <;> rfl) rfl ?_)
  refine WpC.condR (by simp -implicitDefEqProofs [hi, hsm, hsm2, hw1, hw2, hw3, hz0, hz0', hz1, hz2, hm0, hm1, hi1, h01, h02] <;> rfl) (by rfl) (fun c22 => ?_) (fun c22 => ?_)
  · have c22' := c22; first | simp only [dT, dF] at c22' | try simp at c22'
    have hi3 : i = xs.length := by omega
    subst hi3
    refine WpC.seq (WpC.ops tabOk (r := []) (by simp -implicitDefEqProofs [hi, hsm, hsm2, hw1, hw2, hw3, hz0, hz0', hz1, hz2, hm0, hm1, hi1, h01, h02, c22] <;> rfl) rfl ?_)
    refine WpC.ret ?_
    simp
  · have c22' := c22; first | simp only [dT, dF] at c22' | try simp at c22'
    have hi2 : i < xs.length := by omega
    have hi4 : i + 1 ≤ xs.length := hi2
    refine WpC.skip ?_
    refine WpC.seq ?_
    refine WpC.gh (Gh.keep [0, 1, 2, 6, 7, 8] (by simp; rfl)) ?_
    dsimp only
    refine WpC.capK (id := 0) (n := xs.length) (e := 68) (k := 5) (xs := xs) 0 (by simp) (by simp) (Nat.le_refl _) fun cp hcp hcq => ?_
    have hic : i ≤ cp := by omega
    refine WpC.seq (WpC.ops tabOk (r := []) (by simp -implicitDefEqProofs [hi, hsm, hsm2, hw1, hw2, hw3, hz0, hz0', hz1, hz2, hm0, hm1, hi1, h01, h02, c22, hi2, hi4, hcp, hcq, hic] <;> rfl) rfl ?_)
    refine WpC.condR (by simp -implicitDefEqProofs [hi, hsm, hsm2, hw1, hw2, hw3, hz0, hz0', hz1, hz2, hm0, hm1, hi1, h01, h02, c22, hi2, hi4, hcp, hcq, hic] <;> rfl) (by rfl) (fun c31 => ?_) (fun c31 => ?_)
    · have c31' := c31; first | simp only [dT, dF] at c31' | try simp at c31'
      have hcc : cp < xs.length + 1 := by omega
      refine WpC.seq (WpC.ops tabOk (r := []) (by simp -implicitDefEqProofs [hi, hsm, hsm2, hw1, hw2, hw3, hz0, hz0', hz1, hz2, hm0, hm1, hi1, h01, h02, c22, hi2, hi4, hcp, hcq, hic, c31, hcc] <;> rfl) rfl ?_)
      refine WpC.gh (Gh.keep [0, 1, 2, 6, 7, 8, 9] (by simp; rfl)) ?_
      dsimp only
      generalize hZ : List.replicate (xs.length + 1 - i) _ = Z
      have hZl : Z.length = xs.length + 1 - i := by rw [← hZ]; simp
      refine WpC.seq (WpC.ops tabOk (r := []) (by simp -implicitDefEqProofs [hi, hsm, hsm2, hw1, hw2, hw3, hz0, hz0', hz1, hz2, hm0, hm1, hi1, h01, h02, c22, hi2, hi4, hcp, hcq, hic, c31, hcc, hZl] <;> rfl) rfl ?_)
      refine WpC.gh (Gh.keep [0, 1, 2, 6, 7, 8, 9] (by simp; rfl)) ?_
      dsimp only
      generalize hY : List.take i xs ++ x :: List.drop (i + 1) (List.take i xs ++ Z) = Y
      have hYl : Y.length = xs.length + 1 := by rw [← hY]; simp; omega
      have hYi : i + 1 ≤ Y.length := by omega
      have hxi : min (xs.length - i) (xs.length - i) = xs.length - i := by omega
      have hxj : xs.length + 1 - (i + 1) = xs.length - i := by omega
      refine WpC.seq (WpC.drawn tabOk (by kernel_rfl) 0 (by simp) ?_)
      refine DrO.run (fz := []) 3 (by simp -implicitDefEqProofs [hi, hsm, hsm2, hw1, hw2, hw3, hz0, hz0', hz1, hz2, hm0, hm1, hi1, h01, h02, c22, hi2, hi4, hcp, hcq, hic, c31, hcc, hZl, hYl, hYi, hxi, hxj] <;> first | exact ⟨rfl, rfl, rfl, rfl⟩ | rfl) ?_
      refine DrO.run (fz := []) 3 (by simp -implicitDefEqProofs [hi, hsm, hsm2, hw1, hw2, hw3, hz0, hz0', hz1, hz2, hm0, hm1, hi1, h01, h02, c22, hi2, hi4, hcp, hcq, hic, c31, hcc, hZl, hYl, hYi, hxi, hxj] <;> first | exact ⟨rfl, rfl, rfl, rfl⟩ | rfl) ?_
      refine DrO.run (fz := []) 3 (by simp -implicitDefEqProofs [hi, hsm, hsm2, hw1, hw2, hw3, hz0, hz0', hz1, hz2, hm0, hm1, hi1, h01, h02, c22, hi2, hi4, hcp, hcq, hic, c31, hcc, hZl, hYl, hYi, hxi, hxj] <;> first | exact ⟨rfl, rfl, rfl, rfl⟩ | rfl) ?_
      refine DrO.nil ⟨by kernel_rfl, ?_⟩
      refine WpC.seq (WpC.ops tabOk (r := []) (by simp -implicitDefEqProofs [hi, hsm, hsm2, hw1, hw2, hw3, hz0, hz0', hz1, hz2, hm0, hm1, hi1, h01, h02, c22, hi2, hi4, hcp, hcq, hic, c31, hcc, hZl, hYl, hYi, hxi, hxj] <;> rfl) rfl ?_)
      refine WpC.ret ?_
      simp
      exact ins_grow hi2 hY hYl
    · have c31' := c31; first | simp only [dT, dF] at c31' | try simp at c31'
      have hcd : xs.length + 1 ≤ cp := by omega
      refine WpC.skip ?_
      refine WpC.seq (WpC.ops tabOk (r := []) (by simp -implicitDefEqProofs [hi, hsm, hsm2, hw1, hw2, hw3, hz0, hz0', hz1, hz2, hm0, hm1, hi1, h01, h02, c22, hi2, hi4, hcp, hcq, hic, c31, hcd] <;> rfl) rfl ?_)
      refine WpC.seq ?_
      refine WpC.seq ?_
      refine WpC.region ?_
      refine WpO.run tabOk 6 (by simp -implicitDefEqProofs [hi, hsm, hsm2, hw1, hw2, hw3, hz0, hz0', hz1, hz2, hm0, hm1, hi1, h01, h02, c22, hi2, hi4, hcp, hcq, hic, c31, hcd] <;> first | exact ⟨rfl, rfl⟩ | rfl) ?_
      refine WpO.step (by simp) (OpOk.over tabOk (id1 := 1) (n1 := 1) (id2 := 0) (k := 5) (off := i + 1) (n2 := xs.length - i) (e1 := 68) (e2 := 68) (k1 := 5) (k2 := 5) (xs1 := [x]) (xs2 := xs) (t := 55) (tb := 4) (e := 68) rfl (by simp) Try.func55 (by kernel_rfl) (by kernel_rfl) (by kernel_rfl) (by kernel_rfl) rfl rfl rfl (by simp) (by simp) (by simp) (by simp) (by simp) (by simp) (by omega) (by simp) rfl) ?_
      refine WpO.run tabOk 1 (by simp -implicitDefEqProofs [hi, hsm, hsm2, hw1, hw2, hw3, hz0, hz0', hz1, hz2, hm0, hm1, hi1, h01, h02, c22, hi2, hi4, hcp, hcq, hic, c31, hcd] <;> first | exact ⟨rfl, rfl⟩ | rfl) ?_
      refine WpO.nil ?_
      refine WpC.condT (by simp -implicitDefEqProofs [hi, hsm, hsm2, hw1, hw2, hw3, hz0, hz0', hz1, hz2, hm0, hm1, hi1, h01, h02, c22, hi2, hi4, hcp, hcq, hic, c31, hcd] <;> rfl) ?_
      refine WpC.seq (WpC.drawn tabOk (by kernel_rfl) 0 (by simp) ?_)
      refine DrO.run (fz := []) 3 (by simp -implicitDefEqProofs [hi, hsm, hsm2, hw1, hw2, hw3, hz0, hz0', hz1, hz2, hm0, hm1, hi1, h01, h02, c22, hi2, hi4, hcp, hcq, hic, c31, hcd] <;> first | exact ⟨rfl, rfl, rfl, rfl⟩ | rfl) ?_
      refine DrO.run (fz := []) 3 (by simp -implicitDefEqProofs [hi, hsm, hsm2, hw1, hw2, hw3, hz0, hz0', hz1, hz2, hm0, hm1, hi1, h01, h02, c22, hi2, hi4, hcp, hcq, hic, c31, hcd] <;> first | exact ⟨rfl, rfl, rfl, rfl⟩ | rfl) ?_
      refine DrO.run (fz := []) 3 (by simp -implicitDefEqProofs [hi, hsm, hsm2, hw1, hw2, hw3, hz0, hz0', hz1, hz2, hm0, hm1, hi1, h01, h02, c22, hi2, hi4, hcp, hcq, hic, c31, hcd] <;> first | exact ⟨rfl, rfl, rfl, rfl⟩ | rfl) ?_
      refine DrO.nil ⟨by kernel_rfl, ?_⟩
      refine WpC.gh (Gh.keep [0, 1, 2, 6, 7, 8] (by simp; rfl)) ?_
      dsimp only
      generalize hY : List.take (i + 1) xs ++ (List.drop i xs ++ List.drop (i + 1 + (xs.length - i)) xs) = Y
      have hYl : Y.length = xs.length + 1 := by rw [← hY]; simp; omega
      have hYi : i ≤ Y.length := by omega
      refine WpC.seq (WpC.ops tabOk (r := []) (by simp -implicitDefEqProofs [hi, hsm, hsm2, hw1, hw2, hw3, hz0, hz0', hz1, hz2, hm0, hm1, hi1, h01, h02, c22, hi2, hi4, hcp, hcq, hic, c31, hcd, hYl, hYi] <;> rfl) rfl ?_)
      refine WpC.seq (WpC.ops tabOk (r := []) (by simp -implicitDefEqProofs [hi, hsm, hsm2, hw1, hw2, hw3, hz0, hz0', hz1, hz2, hm0, hm1, hi1, h01, h02, c22, hi2, hi4, hcp, hcq, hic, c31, hcd, hYl, hYi] <;> rfl) rfl ?_)
      refine WpC.gh (Gh.slot (t := 6) (x := .sc 0 (xs.length + 1) cp) (y := .sl 0 (xs.length + 1)) (by simp) fun w I L a v _ hv => by simp only [VRel] at hv ⊢; obtain ⟨l, hd, q1, q2, q3⟩ := hv; exact ⟨l, hd, cp, q1, q2, q3⟩) (WpC.ret ?_)
      simp
      exact ins_room hi2 hY
set_option maxHeartbeats 1000000 in
theorem insertR_ok (xs : List D) (x : D) (i : Nat) (hi : i ≤ xs.length) (hl : xs.length ≤ 1000000000) : WpF Try.prog 42 [.sl 0 xs.length, .d (.int .i64 i), .sl 1 1] [.arr 63 7 xs, .arr 63 7 [x]]
    (fun r S => r = .sl 2 (xs.length + 1) ∧ S = [.gone, .gone, .arr 63 7 (xs.take i ++ x :: xs.drop i)]) := by
  refine WpF.row ?_ 2
  have hsm : xs.length ≤ 8589934591 := by omega
  have hsm2 : xs.length + 1 ≤ 8589934592 := by omega
  have hw1 : IntKind.i64.wrap ((xs.length : Int) + 1) = (xs.length : Int) + 1 := by rw [IntKind.wrap_i64]; omega
  have hw2 : IntKind.i64.wrap ((xs.length : Int) + 1 - i) = (xs.length : Int) + 1 - i := by rw [IntKind.wrap_i64]; omega
  have hw3 : IntKind.i64.wrap ((i : Int) + 1) = (i : Int) + 1 := by rw [IntKind.wrap_i64]; omega
  have hz0 : (0 : Int) < (xs.length : Int) + 1 - i := by omega
  have hz0' : (i : Int) < (xs.length : Int) + 1 := by omega
  have hz1 : ((xs.length : Int) + 1 - i).toNat = xs.length + 1 - i := by omega
  have hz2 : i + (xs.length + 1 - i) = xs.length + 1 := by omega
  have hm0 : min i xs.length = i := by omega
  have hm1 : min 1 (xs.length + 1 - i) = 1 := by omega
  have hi1 : i ≤ xs.length + 1 := by omega
  have h01 : (0 : Int) ≤ (xs.length : Int) + 1 := by omega
  have h02 : (0 : Int) ≤ (i : Int) + 1 := by omega
  refine WpF.enter tabOk Try.func42 rfl (by show 3 ≤ 95; decide) ?_
  simp only [Try.f42]
  refine WpC.seq (WpC.ops tabOk (r := []) (by simp -implicitDefEqProofs [hi, hsm, hsm2, hw1, hw2, hw3, hz0, hz0', hz1, hz2, hm0, hm1, hi1, h01, h02] <;> rfl) rfl ?_)
  refine WpC.seq (WpC.ops tabOk (r := []) (by simp -implicitDefEqProofs [hi, hsm, hsm2, hw1, hw2, hw3, hz0, hz0', hz1, hz2, hm0, hm1, hi1, h01, h02] <;> rfl) rfl ?_)
  refine WpC.seq (WpC.ops tabOk (r := []) (by simp -implicitDefEqProofs [hi, hsm, hsm2, hw1, hw2, hw3, hz0, hz0', hz1, hz2, hm0, hm1, hi1, h01, h02] <;> rfl) rfl ?_)
  refine WpC.seq ?_
  refine WpC.seq (WpC.ops tabOk (r := []) (by simp -implicitDefEqProofs [hi, hsm, hsm2, hw1, hw2, hw3, hz0, hz0', hz1, hz2, hm0, hm1, hi1, h01, h02] <;> rfl) rfl ?_)
  refine WpC.condF (by simp -implicitDefEqProofs [hi, hsm, hsm2, hw1, hw2, hw3, hz0, hz0', hz1, hz2, hm0, hm1, hi1, h01, h02] <;> rfl) ?_
  refine WpC.skip ?_
  refine WpC.seq (WpC.ops tabOk (r := []) (by simp -implicitDefEqProofs [hi, hsm, hsm2, hw1, hw2, hw3, hz0, hz0', hz1, hz2, hm0, hm1, hi1, h01, h02] <;> rfl) rfl ?_)
  refine WpC.seq ?_
  refine WpC.seq (WpC.ops tabOk (r := []) (by simp -implicitDefEqProofs [hi, hsm, hsm2, hw1, hw2, hw3, hz0, hz0', hz1, hz2, hm0, hm1, hi1, h01, h02] <;> rfl) rfl ?_)
  refine WpC.condR (by simp -implicitDefEqProofs [hi, hsm, hsm2, hw1, hw2, hw3, hz0, hz0', hz1, hz2, hm0, hm1, hi1, h01, h02] <;> rfl) (by rfl) (fun c22 => ?_) (fun c22 => ?_)
  · have c22' := c22; first | simp only [dT, dF] at c22' | try simp at c22'
    have hi3 : i = xs.length := by omega
    subst hi3
    refine WpC.seq (WpC.ops tabOk (r := []) (by simp -implicitDefEqProofs [hi, hsm, hsm2, hw1, hw2, hw3, hz0, hz0', hz1, hz2, hm0, hm1, hi1, h01, h02, c22] <;> rfl) rfl ?_)
    refine WpC.ret ?_
    simp
  · have c22' := c22; first | simp only [dT, dF] at c22' | try simp at c22'
    have hi2 : i < xs.length := by omega
    have hi4 : i + 1 ≤ xs.length := hi2
    refine WpC.skip ?_
    refine WpC.seq ?_
    refine WpC.gh (Gh.keep [0, 1, 2, 6, 7, 8] (by simp; rfl)) ?_
    dsimp only
    refine WpC.capK (id := 0) (n := xs.length) (e := 63) (k := 7) (xs := xs) 0 (by simp) (by simp) (Nat.le_refl _) fun cp hcp hcq => ?_
    have hic : i ≤ cp := by omega
    refine WpC.seq (WpC.ops tabOk (r := []) (by simp -implicitDefEqProofs [hi, hsm, hsm2, hw1, hw2, hw3, hz0, hz0', hz1, hz2, hm0, hm1, hi1, h01, h02, c22, hi2, hi4, hcp, hcq, hic] <;> rfl) rfl ?_)
    refine WpC.condR (by simp -implicitDefEqProofs [hi, hsm, hsm2, hw1, hw2, hw3, hz0, hz0', hz1, hz2, hm0, hm1, hi1, h01, h02, c22, hi2, hi4, hcp, hcq, hic] <;> rfl) (by rfl) (fun c31 => ?_) (fun c31 => ?_)
    · have c31' := c31; first | simp only [dT, dF] at c31' | try simp at c31'
      have hcc : cp < xs.length + 1 := by omega
      refine WpC.seq (WpC.ops tabOk (r := []) (by simp -implicitDefEqProofs [hi, hsm, hsm2, hw1, hw2, hw3, hz0, hz0', hz1, hz2, hm0, hm1, hi1, h01, h02, c22, hi2, hi4, hcp, hcq, hic, c31, hcc] <;> rfl) rfl ?_)
      refine WpC.gh (Gh.keep [0, 1, 2, 6, 7, 8, 9] (by simp; rfl)) ?_
      dsimp only
      generalize hZ : List.replicate (xs.length + 1 - i) _ = Z
      have hZl : Z.length = xs.length + 1 - i := by rw [← hZ]; simp
      refine WpC.seq (WpC.ops tabOk (r := []) (by simp -implicitDefEqProofs [hi, hsm, hsm2, hw1, hw2, hw3, hz0, hz0', hz1, hz2, hm0, hm1, hi1, h01, h02, c22, hi2, hi4, hcp, hcq, hic, c31, hcc, hZl] <;> rfl) rfl ?_)
      refine WpC.gh (Gh.keep [0, 1, 2, 6, 7, 8, 9] (by simp; rfl)) ?_
      dsimp only
      generalize hY : List.take i xs ++ x :: List.drop (i + 1) (List.take i xs ++ Z) = Y
      have hYl : Y.length = xs.length + 1 := by rw [← hY]; simp; omega
      have hYi : i + 1 ≤ Y.length := by omega
      have hxi : min (xs.length - i) (xs.length - i) = xs.length - i := by omega
      have hxj : xs.length + 1 - (i + 1) = xs.length - i := by omega
      refine WpC.seq (WpC.drawn tabOk (by kernel_rfl) 0 (by simp) ?_)
      refine DrO.run (fz := []) 3 (by simp -implicitDefEqProofs [hi, hsm, hsm2, hw1, hw2, hw3, hz0, hz0', hz1, hz2, hm0, hm1, hi1, h01, h02, c22, hi2, hi4, hcp, hcq, hic, c31, hcc, hZl, hYl, hYi, hxi, hxj] <;> first | exact ⟨rfl, rfl, rfl, rfl⟩ | rfl) ?_
      refine DrO.run (fz := []) 3 (by simp -implicitDefEqProofs [hi, hsm, hsm2, hw1, hw2, hw3, hz0, hz0', hz1, hz2, hm0, hm1, hi1, h01, h02, c22, hi2, hi4, hcp, hcq, hic, c31, hcc, hZl, hYl, hYi, hxi, hxj] <;> first | exact ⟨rfl, rfl, rfl, rfl⟩ | rfl) ?_
      refine DrO.run (fz := []) 3 (by simp -implicitDefEqProofs [hi, hsm, hsm2, hw1, hw2, hw3, hz0, hz0', hz1, hz2, hm0, hm1, hi1, h01, h02, c22, hi2, hi4, hcp, hcq, hic, c31, hcc, hZl, hYl, hYi, hxi, hxj] <;> first | exact ⟨rfl, rfl, rfl, rfl⟩ | rfl) ?_
      refine DrO.nil ⟨by kernel_rfl, ?_⟩
      refine WpC.seq (WpC.ops tabOk (r := []) (by simp -implicitDefEqProofs [hi, hsm, hsm2, hw1, hw2, hw3, hz0, hz0', hz1, hz2, hm0, hm1, hi1, h01, h02, c22, hi2, hi4, hcp, hcq, hic, c31, hcc, hZl, hYl, hYi, hxi, hxj] <;> rfl) rfl ?_)
      refine WpC.ret ?_
      simp
      exact ins_grow hi2 hY hYl
    · have c31' := c31; first | simp only [dT, dF] at c31' | try simp at c31'
      have hcd : xs.length + 1 ≤ cp := by omega
      refine WpC.skip ?_
      refine WpC.seq (WpC.ops tabOk (r := []) (by simp -implicitDefEqProofs [hi, hsm, hsm2, hw1, hw2, hw3, hz0, hz0', hz1, hz2, hm0, hm1, hi1, h01, h02, c22, hi2, hi4, hcp, hcq, hic, c31, hcd] <;> rfl) rfl ?_)
      refine WpC.seq ?_
      refine WpC.seq ?_
      refine WpC.region ?_
      refine WpO.run tabOk 6 (by simp -implicitDefEqProofs [hi, hsm, hsm2, hw1, hw2, hw3, hz0, hz0', hz1, hz2, hm0, hm1, hi1, h01, h02, c22, hi2, hi4, hcp, hcq, hic, c31, hcd] <;> first | exact ⟨rfl, rfl⟩ | rfl) ?_
      refine WpO.step (by simp) (OpOk.over tabOk (id1 := 1) (n1 := 1) (id2 := 0) (k := 7) (off := i + 1) (n2 := xs.length - i) (e1 := 63) (e2 := 63) (k1 := 7) (k2 := 7) (xs1 := [x]) (xs2 := xs) (t := 66) (tb := 4) (e := 63) rfl (by simp) Try.func57 (by kernel_rfl) (by kernel_rfl) (by kernel_rfl) (by kernel_rfl) rfl rfl rfl (by simp) (by simp) (by simp) (by simp) (by simp) (by simp) (by omega) (by simp) rfl) ?_
      refine WpO.run tabOk 1 (by simp -implicitDefEqProofs [hi, hsm, hsm2, hw1, hw2, hw3, hz0, hz0', hz1, hz2, hm0, hm1, hi1, h01, h02, c22, hi2, hi4, hcp, hcq, hic, c31, hcd] <;> first | exact ⟨rfl, rfl⟩ | rfl) ?_
      refine WpO.nil ?_
      refine WpC.condT (by simp -implicitDefEqProofs [hi, hsm, hsm2, hw1, hw2, hw3, hz0, hz0', hz1, hz2, hm0, hm1, hi1, h01, h02, c22, hi2, hi4, hcp, hcq, hic, c31, hcd] <;> rfl) ?_
      refine WpC.seq (WpC.drawn tabOk (by kernel_rfl) 0 (by simp) ?_)
      refine DrO.run (fz := []) 3 (by simp -implicitDefEqProofs [hi, hsm, hsm2, hw1, hw2, hw3, hz0, hz0', hz1, hz2, hm0, hm1, hi1, h01, h02, c22, hi2, hi4, hcp, hcq, hic, c31, hcd] <;> first | exact ⟨rfl, rfl, rfl, rfl⟩ | rfl) ?_
      refine DrO.run (fz := []) 3 (by simp -implicitDefEqProofs [hi, hsm, hsm2, hw1, hw2, hw3, hz0, hz0', hz1, hz2, hm0, hm1, hi1, h01, h02, c22, hi2, hi4, hcp, hcq, hic, c31, hcd] <;> first | exact ⟨rfl, rfl, rfl, rfl⟩ | rfl) ?_
      refine DrO.run (fz := []) 3 (by simp -implicitDefEqProofs [hi, hsm, hsm2, hw1, hw2, hw3, hz0, hz0', hz1, hz2, hm0, hm1, hi1, h01, h02, c22, hi2, hi4, hcp, hcq, hic, c31, hcd] <;> first | exact ⟨rfl, rfl, rfl, rfl⟩ | rfl) ?_
      refine DrO.nil ⟨by kernel_rfl, ?_⟩
      refine WpC.gh (Gh.keep [0, 1, 2, 6, 7, 8] (by simp; rfl)) ?_
      dsimp only
      generalize hY : List.take (i + 1) xs ++ (List.drop i xs ++ List.drop (i + 1 + (xs.length - i)) xs) = Y
      have hYl : Y.length = xs.length + 1 := by rw [← hY]; simp; omega
      have hYi : i ≤ Y.length := by omega
      refine WpC.seq (WpC.ops tabOk (r := []) (by simp -implicitDefEqProofs [hi, hsm, hsm2, hw1, hw2, hw3, hz0, hz0', hz1, hz2, hm0, hm1, hi1, h01, h02, c22, hi2, hi4, hcp, hcq, hic, c31, hcd, hYl, hYi] <;> rfl) rfl ?_)
      refine WpC.seq (WpC.ops tabOk (r := []) (by simp -implicitDefEqProofs [hi, hsm, hsm2, hw1, hw2, hw3, hz0, hz0', hz1, hz2, hm0, hm1, hi1, h01, h02, c22, hi2, hi4, hcp, hcq, hic, c31, hcd, hYl, hYi] <;> rfl) rfl ?_)
      refine WpC.gh (Gh.slot (t := 6) (x := .sc 0 (xs.length + 1) cp) (y := .sl 0 (xs.length + 1)) (by simp) fun w I L a v _ hv => by simp only [VRel] at hv ⊢; obtain ⟨l, hd, q1, q2, q3⟩ := hv; exact ⟨l, hd, cp, q1, q2, q3⟩) (WpC.ret ?_)
      simp
      exact ins_room hi2 hY

end Go.Proofs.Ytndofikacmhejaa.Pay
