/- Law SplitOne. No statement of the seed is proved here. -/
import Derived.Test.YtfbpcjkhgiickaaSpU
import Derived.Test.YtfbpcjkhgiickaaSpS
namespace Go.Proofs.Ytfbpcjkhgiickaa.Pay
open Go Go.RowKit
set_option linter.unusedVariables false
set_option linter.unusedSimpArgs false
set_option linter.unusedSectionVars false

set_option maxHeartbeats 4000000 in
theorem splitOne_ok (T m a : Int) (ws : List Int) (hT : 0 ≤ T ∧ T ≤ 18446744073709551615) (hws : ∀ x ∈ ws, in64 x) (hl : ws.length ≤ 9223372036854775807) (hm : 0 ≤ m ∧ m ≤ 255) (ha : 0 ≤ a ∧ a ≤ 255) : Gives Try.prog 7 [.d (.int .u64 T), .d (.list 1 (ws.map dI)), .d (.int .u8 m), .d (.int .u8 a)] (.d (.bool true)) := by
  obtain ⟨t, ht⟩ : ∃ t : Nat, T / 2 = t := ⟨(T / 2).toNat, by omega⟩
  obtain ⟨n, hn⟩ : ∃ n : Nat, 1 + m % 40 = n := ⟨(1 + m % 40).toNat, by omega⟩
  obtain ⟨p, hp⟩ : ∃ p : Nat, a % n = p := ⟨(a % n).toNat, by rw [Int.toNat_of_nonneg (Int.emod_nonneg _ (by omega))]⟩
  have hn1 : 1 ≤ n := by omega
  have hn60 : n ≤ 60 := by omega
  have hpn : p < n := by have := Int.emod_lt_of_pos a (show (0 : Int) < n by omega); omega
  have e1 := half ht
  have e2 : IntKind.i64.wrap (t : Int) = t := wrapI (by omega) (by omega)
  have e3 : m.tmod 40 = m % 40 := Int.tmod_eq_emod_of_nonneg hm.1
  have e4 : IntKind.i64.wrap (m % 40) = m % 40 := wrapI (by omega) (by omega)
  have e5 : IntKind.i64.wrap (1 + m % 40) = n := by rw [hn]; exact wrapI (by omega) (by omega)
  have e6 : IntKind.i64.wrap a = a := wrapI (by omega) (by omega)
  have e7 : a.tmod n = p := by rw [Int.tmod_eq_emod_of_nonneg ha.1, hp]
  have e8 : n ≤ 8589934592 := by omega
  have e9 : (n : Int) ≤ 8589934592 := by omega
  have e10 : ¬ n = 0 := by omega
  have hin : in64 (t : Int) := by unfold in64; omega
  obtain ⟨o1, L, o2, o3, o4⟩ := one_pt (t := t) hpn hn60
  have hsp := splitL_ok (t : Int) ((List.range n).map (oneW p)) hin (fun x hx => by obtain ⟨i, _, rfl⟩ := List.mem_map.1 hx; unfold oneW upd in64; simp only; split <;> omega) (by simp; omega)
  rw [o1, o2, ← rowF_map] at hsp
  have hz : List.replicate n (D.int .i64 0) = rowF (fun _ => 0) n := by
    rw [pk_zero (fun _ => 0) n]; exact rowF_ext fun i hi => by simp [pk]
  have hpL : p < L.length := by omega
  have hLp : L[p] = (t : Int) := by rw [List.getElem?_eq_getElem hpL] at o4; exact Option.some.inj o4
  have hup : upd (fun _ => (0 : Int)) p 7 = oneW p := rfl
  refine Gives.enter tabOk Try.func7 rfl (by show 4 ≤ 110; decide) ?_
  simp only [Try.f7]
  refine WpC.seq (WpC.ops tabOk (r := []) (by simp -implicitDefEqProofs [e1, e2, e3, e4, e5, e6, e7, e8, e9, e10, hz, o3, hup, hpn, hLp] <;> rfl) rfl ?_)
  refine WpC.seq ?_
  refine WpC.seq (WpC.ops tabOk (r := []) (by simp -implicitDefEqProofs [e1, e2, e3, e4, e5, e6, e7, e8, e9, e10, hz, o3, hup, hpn, hLp] <;> rfl) rfl ?_)
  refine WpC.condD ((59 : Int) < ws.length) (by simp -implicitDefEqProofs [e1, e2, e3, e4, e5, e6, e7, e8, e9, e10, hz, o3, hup, hpn, hLp]) (fun d21 => ?_) (fun d21 => ?_)
  · refine WpC.seq ?_
    refine WpC.region ?_
    refine WpO.data (by simp) rfl (by simp -implicitDefEqProofs [e1, e2, e3, e4, e5, e6, e7, e8, e9, e10, hz, o3, hup, hpn, hLp, d21] <;> rfl) (by simp -implicitDefEqProofs [e1, e2, e3, e4, e5, e6, e7, e8, e9, e10, hz, o3, hup, hpn, hLp, d21] <;> rfl) (by simp -implicitDefEqProofs [e1, e2, e3, e4, e5, e6, e7, e8, e9, e10, hz, o3, hup, hpn, hLp, d21] <;> rfl) call_8 (by simp) (awake4_ok) (by rfl) (by simp -implicitDefEqProofs [e1, e2, e3, e4, e5, e6, e7, e8, e9, e10, hz, o3, hup, hpn, hLp, d21] <;> rfl) ?_
    refine WpO.run tabOk 1 (by simp -implicitDefEqProofs [e1, e2, e3, e4, e5, e6, e7, e8, e9, e10, hz, o3, hup, hpn, hLp, d21] <;> first | exact ⟨rfl, rfl⟩ | rfl) ?_
    refine WpO.nil ?_
    refine WpC.ret ?_
    try simp only [blockQ, seqQ]
    refine retD_i (by simp -implicitDefEqProofs [e1, e2, e3, e4, e5, e6, e7, e8, e9, e10, hz, o3, hup, hpn, hLp, d21] <;> rfl) (by simp -implicitDefEqProofs [e1, e2, e3, e4, e5, e6, e7, e8, e9, e10, hz, o3, hup, hpn, hLp, d21] <;> rfl) ?_
    simp -implicitDefEqProofs [e1, e2, e3, e4, e5, e6, e7, e8, e9, e10, hz, o3, hup, hpn, hLp, d21]
  · have hn59 : ws.length ≤ 59 := by omega
    obtain ⟨m1, m2⟩ := more0 (T := t) (ws := ws) hn59
    have s1 := splitL_ok t ws hin hws (by omega)
    have s2 := splitL_ok t (ws ++ [0]) hin (fun x hx => by rcases List.mem_append.1 hx with h | h; exact hws x h; simp at h; subst h; unfold in64; omega) (by simp; omega)
    rw [m1] at s2
    obtain ⟨e, he⟩ : ∃ e, spE (t : Int) ws = e := ⟨_, rfl⟩
    obtain ⟨A, hA⟩ : ∃ A, spS (t : Int) ws = A := ⟨_, rfl⟩
    obtain ⟨B, hB⟩ : ∃ B, spS (t : Int) (ws ++ [0]) = B := ⟨_, rfl⟩
    rw [he, hA, hB] at m2
    rw [he, hA] at s1
    rw [he, hB] at s2
    have hAn : A.length ≤ 60 := by rw [← hA]; unfold spS; split <;> simp; omega
    have hAw : IntKind.i64.wrap ((A.length : Int) + 1) = A.length + 1 := wrapI (by omega) (by omega)
    have hsm := same_ok A A (by omega) (by omega)
    simp only [decide_true] at hsm
    have hw59 : ws.length ≤ 8589934592 := by omega
    have hw60 : ws.length ≤ 8589934591 := by omega
    have hap : (ws ++ [(0 : Int)]).map dI = ws.map dI ++ [dI 0] := by simp
    rw [hap] at s2
    refine WpC.skip ?_
    refine WpC.seq (WpC.ops tabOk (r := []) (by simp -implicitDefEqProofs [e1, e2, e3, e4, e5, e6, e7, e8, e9, e10, hz, o3, hup, hpn, hLp, d21, hw59, hw60, hAw] <;> rfl) rfl ?_)
    refine WpC.seq (WpC.ops tabOk (r := []) (by simp -implicitDefEqProofs [e1, e2, e3, e4, e5, e6, e7, e8, e9, e10, hz, o3, hup, hpn, hLp, d21, hw59, hw60, hAw] <;> rfl) rfl ?_)
    refine WpC.seq (WpC.ops tabOk (r := []) (by simp -implicitDefEqProofs [e1, e2, e3, e4, e5, e6, e7, e8, e9, e10, hz, o3, hup, hpn, hLp, d21, hw59, hw60, hAw] <;> rfl) rfl ?_)
    refine WpC.seq (WpC.ops tabOk (r := []) (by simp -implicitDefEqProofs [e1, e2, e3, e4, e5, e6, e7, e8, e9, e10, hz, o3, hup, hpn, hLp, d21, hw59, hw60, hAw] <;> rfl) rfl ?_)
    refine WpC.seq (WpC.ops tabOk (r := []) (by simp -implicitDefEqProofs [e1, e2, e3, e4, e5, e6, e7, e8, e9, e10, hz, o3, hup, hpn, hLp, d21, hw59, hw60, hAw] <;> rfl) rfl ?_)
    refine WpC.seq ?_
    refine WpC.region ?_
    refine WpO.run tabOk 2 (by simp -implicitDefEqProofs [e1, e2, e3, e4, e5, e6, e7, e8, e9, e10, hz, o3, hup, hpn, hLp, d21, hw59, hw60, hAw] <;> first | exact ⟨rfl, rfl⟩ | rfl) ?_
    refine WpO.gh (Gh.frz [0]) ?_
    refine WpO.data (by simp) rfl (by simp -implicitDefEqProofs [e1, e2, e3, e4, e5, e6, e7, e8, e9, e10, hz, o3, hup, hpn, hLp, d21, hw59, hw60, hAw] <;> rfl) (by simp -implicitDefEqProofs [e1, e2, e3, e4, e5, e6, e7, e8, e9, e10, hz, o3, hup, hpn, hLp, d21, hw59, hw60, hAw] <;> rfl) (by simp -implicitDefEqProofs [e1, e2, e3, e4, e5, e6, e7, e8, e9, e10, hz, o3, hup, hpn, hLp, d21, hw59, hw60, hAw] <;> rfl) call_9 (by simp) ( hsp) (by rfl) (by simp -implicitDefEqProofs [e1, e2, e3, e4, e5, e6, e7, e8, e9, e10, hz, o3, hup, hpn, hLp, d21, hw59, hw60, hAw] <;> rfl) ?_
    refine WpO.run tabOk 5 (by simp -implicitDefEqProofs [e1, e2, e3, e4, e5, e6, e7, e8, e9, e10, hz, o3, hup, hpn, hLp, d21, hw59, hw60, hAw] <;> first | exact ⟨rfl, rfl⟩ | rfl) ?_
    refine WpO.nil ?_
    refine WpC.seq ?_
    refine WpC.seq ?_
    refine WpC.val 60 (.d (.bool (false))) ?_ ?_
    · refine WpC.region ?_
      refine WpO.run tabOk 3 (by simp -implicitDefEqProofs [e1, e2, e3, e4, e5, e6, e7, e8, e9, e10, hz, o3, hup, hpn, hLp, d21, hw59, hw60, hAw] <;> first | exact ⟨rfl, rfl⟩ | rfl) ?_
      refine WpO.splitB 47 (by simp -implicitDefEqProofs [e1, e2, e3, e4, e5, e6, e7, e8, e9, e10, hz, o3, hup, hpn, hLp, d21, hw59, hw60, hAw] <;> rfl) (by rfl) (fun g47 => ?_) (fun g47 => ?_)
      · try (exfalso; revert g47; simp; done)
        all_goals
          have g47' := g47; first | simp only [dT, dF] at g47' | try simp at g47'
          refine WpO.run tabOk 13 (by simp -implicitDefEqProofs [e1, e2, e3, e4, e5, e6, e7, e8, e9, e10, hz, o3, hup, hpn, hLp, d21, hw59, hw60, hAw, g47] <;> first | exact ⟨rfl, rfl⟩ | rfl) ?_
          refine WpO.nil ?_
          refine ⟨rfl, Gh.only 60 17 ?_ (by first | rfl | simp -implicitDefEqProofs [e1, e2, e3, e4, e5, e6, e7, e8, e9, e10, hz, o3, hup, hpn, hLp, d21, hw59, hw60, hAw, g47]) (by rfl)⟩
          simp -implicitDefEqProofs [e1, e2, e3, e4, e5, e6, e7, e8, e9, e10, hz, o3, hup, hpn, hLp, d21, hw59, hw60, hAw, g47, g47']
      · try (exfalso; revert g47; simp; done)
        all_goals
          have g47' := g47; first | simp only [dT, dF] at g47' | try simp at g47'
          refine WpO.run tabOk 6 (by simp -implicitDefEqProofs [e1, e2, e3, e4, e5, e6, e7, e8, e9, e10, hz, o3, hup, hpn, hLp, d21, hw59, hw60, hAw, g47] <;> first | exact ⟨rfl, rfl⟩ | rfl) ?_
          refine WpO.splitB 53 (by simp -implicitDefEqProofs [e1, e2, e3, e4, e5, e6, e7, e8, e9, e10, hz, o3, hup, hpn, hLp, d21, hw59, hw60, hAw, g47] <;> rfl) (by rfl) (fun g53 => ?_) (fun g53 => ?_)
          · try (exfalso; revert g53; simp; done)
            all_goals
              have g53' := g53; first | simp only [dT, dF] at g53' | try simp at g53'
              refine WpO.run tabOk 7 (by simp -implicitDefEqProofs [e1, e2, e3, e4, e5, e6, e7, e8, e9, e10, hz, o3, hup, hpn, hLp, d21, hw59, hw60, hAw, g47, g53] <;> first | exact ⟨rfl, rfl⟩ | rfl) ?_
              refine WpO.nil ?_
              refine ⟨rfl, Gh.only 60 18 ?_ (by first | rfl | simp -implicitDefEqProofs [e1, e2, e3, e4, e5, e6, e7, e8, e9, e10, hz, o3, hup, hpn, hLp, d21, hw59, hw60, hAw, g47, g53]) (by rfl)⟩
              simp -implicitDefEqProofs [e1, e2, e3, e4, e5, e6, e7, e8, e9, e10, hz, o3, hup, hpn, hLp, d21, hw59, hw60, hAw, g47, g53, g47', g53']
          · try (exfalso; revert g53; simp; done)
            all_goals
              have g53' := g53; first | simp only [dT, dF] at g53' | try simp at g53'
              refine WpO.run tabOk 7 (by simp -implicitDefEqProofs [e1, e2, e3, e4, e5, e6, e7, e8, e9, e10, hz, o3, hup, hpn, hLp, d21, hw59, hw60, hAw, g47, g53] <;> first | exact ⟨rfl, rfl⟩ | rfl) ?_
              refine WpO.nil ?_
              refine ⟨rfl, Gh.only 60 18 ?_ (by first | rfl | simp -implicitDefEqProofs [e1, e2, e3, e4, e5, e6, e7, e8, e9, e10, hz, o3, hup, hpn, hLp, d21, hw59, hw60, hAw, g47, g53]) (by rfl)⟩
              simp -implicitDefEqProofs [e1, e2, e3, e4, e5, e6, e7, e8, e9, e10, hz, o3, hup, hpn, hLp, d21, hw59, hw60, hAw, g47, g53, g47', g53']
    refine WpC.condF (by simp -implicitDefEqProofs [e1, e2, e3, e4, e5, e6, e7, e8, e9, e10, hz, o3, hup, hpn, hLp, d21, hw59, hw60, hAw] <;> rfl) ?_
    refine WpC.skip ?_
    refine WpC.seq ?_
    refine WpC.region ?_
    refine WpO.run tabOk 2 (by simp -implicitDefEqProofs [e1, e2, e3, e4, e5, e6, e7, e8, e9, e10, hz, o3, hup, hpn, hLp, d21, hw59, hw60, hAw] <;> first | exact ⟨rfl, rfl⟩ | rfl) ?_
    refine WpO.data (by simp) rfl (by simp -implicitDefEqProofs [e1, e2, e3, e4, e5, e6, e7, e8, e9, e10, hz, o3, hup, hpn, hLp, d21, hw59, hw60, hAw] <;> rfl) (by simp -implicitDefEqProofs [e1, e2, e3, e4, e5, e6, e7, e8, e9, e10, hz, o3, hup, hpn, hLp, d21, hw59, hw60, hAw] <;> rfl) (by simp -implicitDefEqProofs [e1, e2, e3, e4, e5, e6, e7, e8, e9, e10, hz, o3, hup, hpn, hLp, d21, hw59, hw60, hAw] <;> rfl) call_9 (by simp) (s1) (by rfl) (by simp -implicitDefEqProofs [e1, e2, e3, e4, e5, e6, e7, e8, e9, e10, hz, o3, hup, hpn, hLp, d21, hw59, hw60, hAw] <;> rfl) ?_
    refine WpO.run tabOk 5 (by simp -implicitDefEqProofs [e1, e2, e3, e4, e5, e6, e7, e8, e9, e10, hz, o3, hup, hpn, hLp, d21, hw59, hw60, hAw] <;> first | exact ⟨rfl, rfl⟩ | rfl) ?_
    refine WpO.nil ?_
    refine WpC.seq ?_
    refine WpC.region ?_
    refine WpO.run tabOk 6 (by simp -implicitDefEqProofs [e1, e2, e3, e4, e5, e6, e7, e8, e9, e10, hz, o3, hup, hpn, hLp, d21, hw59, hw60, hAw] <;> first | exact ⟨rfl, rfl⟩ | rfl) ?_
    refine WpO.gh (Gh.frz [4]) ?_
    refine WpO.data (by simp) rfl (by simp -implicitDefEqProofs [e1, e2, e3, e4, e5, e6, e7, e8, e9, e10, hz, o3, hup, hpn, hLp, d21, hw59, hw60, hAw] <;> rfl) (by simp -implicitDefEqProofs [e1, e2, e3, e4, e5, e6, e7, e8, e9, e10, hz, o3, hup, hpn, hLp, d21, hw59, hw60, hAw] <;> rfl) (by simp -implicitDefEqProofs [e1, e2, e3, e4, e5, e6, e7, e8, e9, e10, hz, o3, hup, hpn, hLp, d21, hw59, hw60, hAw] <;> rfl) call_9 (by simp) ( s2) (by rfl) (by simp -implicitDefEqProofs [e1, e2, e3, e4, e5, e6, e7, e8, e9, e10, hz, o3, hup, hpn, hLp, d21, hw59, hw60, hAw] <;> rfl) ?_
    refine WpO.run tabOk 5 (by simp -implicitDefEqProofs [e1, e2, e3, e4, e5, e6, e7, e8, e9, e10, hz, o3, hup, hpn, hLp, d21, hw59, hw60, hAw] <;> first | exact ⟨rfl, rfl⟩ | rfl) ?_
    refine WpO.nil ?_
    refine WpC.seq ?_
    refine WpC.seq ?_
    refine WpC.val 108 (.d (.bool (false))) ?_ ?_
    · refine WpC.region ?_
      refine WpO.run tabOk 4 (by simp -implicitDefEqProofs [e1, e2, e3, e4, e5, e6, e7, e8, e9, e10, hz, o3, hup, hpn, hLp, d21, hw59, hw60, hAw] <;> first | exact ⟨rfl, rfl⟩ | rfl) ?_
      refine WpO.splitB 80 (by simp -implicitDefEqProofs [e1, e2, e3, e4, e5, e6, e7, e8, e9, e10, hz, o3, hup, hpn, hLp, d21, hw59, hw60, hAw] <;> rfl) (by rfl) (fun g80 => ?_) (fun g80 => ?_)
      · try (exfalso; revert g80; simp; done)
        all_goals
          have g80' := g80; first | simp only [dT, dF] at g80' | try simp at g80'
          refine WpO.run tabOk 28 (by simp -implicitDefEqProofs [e1, e2, e3, e4, e5, e6, e7, e8, e9, e10, hz, o3, hup, hpn, hLp, d21, hw59, hw60, hAw, g80] <;> first | exact ⟨rfl, rfl⟩ | rfl) ?_
          refine WpO.nil ?_
          refine ⟨rfl, Gh.only 108 33 ?_ (by first | rfl | simp -implicitDefEqProofs [e1, e2, e3, e4, e5, e6, e7, e8, e9, e10, hz, o3, hup, hpn, hLp, d21, hw59, hw60, hAw, g80]) (by rfl)⟩
          simp -implicitDefEqProofs [e1, e2, e3, e4, e5, e6, e7, e8, e9, e10, hz, o3, hup, hpn, hLp, d21, hw59, hw60, hAw, g80, g80']
      · try (exfalso; revert g80; simp; done)
        all_goals
          have g80' := g80; first | simp only [dT, dF] at g80' | try simp at g80'
          refine WpO.run tabOk 3 (by simp -implicitDefEqProofs [e1, e2, e3, e4, e5, e6, e7, e8, e9, e10, hz, o3, hup, hpn, hLp, d21, hw59, hw60, hAw, g80] <;> first | exact ⟨rfl, rfl⟩ | rfl) ?_
          refine WpO.splitB 83 (by simp -implicitDefEqProofs [e1, e2, e3, e4, e5, e6, e7, e8, e9, e10, hz, o3, hup, hpn, hLp, d21, hw59, hw60, hAw, g80] <;> rfl) (by rfl) (fun g83 => ?_) (fun g83 => ?_)
          · try (exfalso; revert g83; simp; done)
            all_goals
              have g83' := g83; first | simp only [dT, dF] at g83' | try simp at g83'
              have hBA : B = A ++ [0] := m2 (by simpa using g83)
              subst hBA
              refine WpO.run tabOk 7 (by simp -implicitDefEqProofs [e1, e2, e3, e4, e5, e6, e7, e8, e9, e10, hz, o3, hup, hpn, hLp, d21, hw59, hw60, hAw, g80, g83] <;> first | exact ⟨rfl, rfl⟩ | rfl) ?_
              refine WpO.splitB 90 (by simp -implicitDefEqProofs [e1, e2, e3, e4, e5, e6, e7, e8, e9, e10, hz, o3, hup, hpn, hLp, d21, hw59, hw60, hAw, g80, g83] <;> rfl) (by rfl) (fun g90 => ?_) (fun g90 => ?_)
              · try (exfalso; revert g90; simp; done)
                all_goals
                  have g90' := g90; first | simp only [dT, dF] at g90' | try simp at g90'
                  refine WpO.run tabOk 18 (by simp -implicitDefEqProofs [e1, e2, e3, e4, e5, e6, e7, e8, e9, e10, hz, o3, hup, hpn, hLp, d21, hw59, hw60, hAw, g80, g83, g90] <;> first | exact ⟨rfl, rfl⟩ | rfl) ?_
                  refine WpO.nil ?_
                  refine ⟨rfl, Gh.only 108 35 ?_ (by first | rfl | simp -implicitDefEqProofs [e1, e2, e3, e4, e5, e6, e7, e8, e9, e10, hz, o3, hup, hpn, hLp, d21, hw59, hw60, hAw, g80, g83, g90]) (by rfl)⟩
                  simp -implicitDefEqProofs [e1, e2, e3, e4, e5, e6, e7, e8, e9, e10, hz, o3, hup, hpn, hLp, d21, hw59, hw60, hAw, g80, g83, g90, g80', g83', g90']
              · try (exfalso; revert g90; simp; done)
                all_goals
                  have g90' := g90; first | simp only [dT, dF] at g90' | try simp at g90'
                  refine WpO.run tabOk 8 (by simp -implicitDefEqProofs [e1, e2, e3, e4, e5, e6, e7, e8, e9, e10, hz, o3, hup, hpn, hLp, d21, hw59, hw60, hAw, g80, g83, g90] <;> first | exact ⟨rfl, rfl⟩ | rfl) ?_
                  refine WpO.splitB 98 (by simp -implicitDefEqProofs [e1, e2, e3, e4, e5, e6, e7, e8, e9, e10, hz, o3, hup, hpn, hLp, d21, hw59, hw60, hAw, g80, g83, g90] <;> rfl) (by rfl) (fun g98 => ?_) (fun g98 => ?_)
                  · try (exfalso; revert g98; simp; done)
                    all_goals
                      have g98' := g98; first | simp only [dT, dF] at g98' | try simp at g98'
                      refine WpO.run tabOk 10 (by simp -implicitDefEqProofs [e1, e2, e3, e4, e5, e6, e7, e8, e9, e10, hz, o3, hup, hpn, hLp, d21, hw59, hw60, hAw, g80, g83, g90, g98] <;> first | exact ⟨rfl, rfl⟩ | rfl) ?_
                      refine WpO.nil ?_
                      refine ⟨rfl, Gh.only 108 36 ?_ (by first | rfl | simp -implicitDefEqProofs [e1, e2, e3, e4, e5, e6, e7, e8, e9, e10, hz, o3, hup, hpn, hLp, d21, hw59, hw60, hAw, g80, g83, g90, g98]) (by rfl)⟩
                      simp -implicitDefEqProofs [e1, e2, e3, e4, e5, e6, e7, e8, e9, e10, hz, o3, hup, hpn, hLp, d21, hw59, hw60, hAw, g80, g83, g90, g98, g80', g83', g90', g98']
                  · try (exfalso; revert g98; simp; done)
                    all_goals
                      have g98' := g98; first | simp only [dT, dF] at g98' | try simp at g98'
                      refine WpO.run tabOk 5 (by simp -implicitDefEqProofs [e1, e2, e3, e4, e5, e6, e7, e8, e9, e10, hz, o3, hup, hpn, hLp, d21, hw59, hw60, hAw, g80, g83, g90, g98] <;> first | exact ⟨rfl, rfl⟩ | rfl) ?_
                      refine WpO.data (by simp) rfl (by simp -implicitDefEqProofs [e1, e2, e3, e4, e5, e6, e7, e8, e9, e10, hz, o3, hup, hpn, hLp, d21, hw59, hw60, hAw, g80, g83, g90, g98] <;> rfl) (by simp -implicitDefEqProofs [e1, e2, e3, e4, e5, e6, e7, e8, e9, e10, hz, o3, hup, hpn, hLp, d21, hw59, hw60, hAw, g80, g83, g90, g98] <;> rfl) (by simp -implicitDefEqProofs [e1, e2, e3, e4, e5, e6, e7, e8, e9, e10, hz, o3, hup, hpn, hLp, d21, hw59, hw60, hAw, g80, g83, g90, g98] <;> rfl) call_12 (by simp) (hsm) (by rfl) (by simp -implicitDefEqProofs [e1, e2, e3, e4, e5, e6, e7, e8, e9, e10, hz, o3, hup, hpn, hLp, d21, hw59, hw60, hAw, g80, g83, g90, g98] <;> rfl) ?_
                      refine WpO.run tabOk 4 (by simp -implicitDefEqProofs [e1, e2, e3, e4, e5, e6, e7, e8, e9, e10, hz, o3, hup, hpn, hLp, d21, hw59, hw60, hAw, g80, g83, g90, g98] <;> first | exact ⟨rfl, rfl⟩ | rfl) ?_
                      refine WpO.nil ?_
                      refine ⟨rfl, Gh.only 108 36 ?_ (by first | rfl | simp -implicitDefEqProofs [e1, e2, e3, e4, e5, e6, e7, e8, e9, e10, hz, o3, hup, hpn, hLp, d21, hw59, hw60, hAw, g80, g83, g90, g98]) (by rfl)⟩
                      simp -implicitDefEqProofs [e1, e2, e3, e4, e5, e6, e7, e8, e9, e10, hz, o3, hup, hpn, hLp, d21, hw59, hw60, hAw, g80, g83, g90, g98, g80', g83', g90', g98']
          · try (exfalso; revert g83; simp; done)
            all_goals
              have g83' := g83; first | simp only [dT, dF] at g83' | try simp at g83'
              refine WpO.run tabOk 25 (by simp -implicitDefEqProofs [e1, e2, e3, e4, e5, e6, e7, e8, e9, e10, hz, o3, hup, hpn, hLp, d21, hw59, hw60, hAw, g80, g83] <;> first | exact ⟨rfl, rfl⟩ | rfl) ?_
              refine WpO.nil ?_
              refine ⟨rfl, Gh.only 108 34 ?_ (by first | rfl | simp -implicitDefEqProofs [e1, e2, e3, e4, e5, e6, e7, e8, e9, e10, hz, o3, hup, hpn, hLp, d21, hw59, hw60, hAw, g80, g83]) (by rfl)⟩
              simp -implicitDefEqProofs [e1, e2, e3, e4, e5, e6, e7, e8, e9, e10, hz, o3, hup, hpn, hLp, d21, hw59, hw60, hAw, g80, g83, g80', g83']
    refine WpC.condF (by simp -implicitDefEqProofs [e1, e2, e3, e4, e5, e6, e7, e8, e9, e10, hz, o3, hup, hpn, hLp, d21, hw59, hw60, hAw] <;> rfl) ?_
    refine WpC.skip ?_
    refine WpC.seq ?_
    refine WpC.region ?_
    refine WpO.data (by simp) rfl (by simp -implicitDefEqProofs [e1, e2, e3, e4, e5, e6, e7, e8, e9, e10, hz, o3, hup, hpn, hLp, d21, hw59, hw60, hAw] <;> rfl) (by simp -implicitDefEqProofs [e1, e2, e3, e4, e5, e6, e7, e8, e9, e10, hz, o3, hup, hpn, hLp, d21, hw59, hw60, hAw] <;> rfl) (by simp -implicitDefEqProofs [e1, e2, e3, e4, e5, e6, e7, e8, e9, e10, hz, o3, hup, hpn, hLp, d21, hw59, hw60, hAw] <;> rfl) call_8 (by simp) (awake4_ok) (by rfl) (by simp -implicitDefEqProofs [e1, e2, e3, e4, e5, e6, e7, e8, e9, e10, hz, o3, hup, hpn, hLp, d21, hw59, hw60, hAw] <;> rfl) ?_
    refine WpO.run tabOk 1 (by simp -implicitDefEqProofs [e1, e2, e3, e4, e5, e6, e7, e8, e9, e10, hz, o3, hup, hpn, hLp, d21, hw59, hw60, hAw] <;> first | exact ⟨rfl, rfl⟩ | rfl) ?_
    refine WpO.nil ?_
    refine WpC.ret ?_
    try simp only [blockQ, seqQ]
    refine retD_i (by simp -implicitDefEqProofs [e1, e2, e3, e4, e5, e6, e7, e8, e9, e10, hz, o3, hup, hpn, hLp, d21, hw59, hw60, hAw] <;> rfl) (by simp -implicitDefEqProofs [e1, e2, e3, e4, e5, e6, e7, e8, e9, e10, hz, o3, hup, hpn, hLp, d21, hw59, hw60, hAw] <;> rfl) ?_
    simp -implicitDefEqProofs [e1, e2, e3, e4, e5, e6, e7, e8, e9, e10, hz, o3, hup, hpn, hLp, d21, hw59, hw60, hAw]
section
variable {w : World}
theorem splitOne_row {e0 e1 e2 e3 : List D} {v0 v1 v2 v3 : Value} {i0 i1 i2 i3 : TI} (y0 : HasT tab 8 34 e0) (y1 : HasT tab 8 22 e1) (y2 : HasT tab 8 5 e2) (y3 : HasT tab 8 5 e3) (t0 : some i0 = tab 34) (t1 : some i1 = tab 22) (t2 : some i2 = tab 5) (t3 : some i3 = tab 5)
    (z0 : DRel w (lt w) (elemD i0 e0) v0) (z1 : DRel w (lt w) (elemD i1 e1) v1) (z2 : DRel w (lt w) (elemD i2 e2) v2) (z3 : DRel w (lt w) (elemD i3 e3) v3) :
    Calls Try.prog 7 #[v0, v1, v2, v3] w fun e w' => e = .returned (.bool true) ∧ Below w.heap.size w w' := by
  rw [tab_34] at t0; cases t0
  rw [tab_22] at t1; cases t1
  rw [tab_5] at t2 t3; cases t2; cases t3
  obtain ⟨n, rfl, hn⟩ := has_num y0 tab_34
  obtain ⟨ws, hg, hl, rfl⟩ := has_ints y1 tab_22 tab_3
  obtain ⟨m, rfl, hm⟩ := has_num y2 tab_5
  obtain ⟨k, rfl, hk⟩ := has_num y3 tab_5
  refine WpF.law (splitOne_ok n m k ws ⟨hn.1, hn.2⟩ (fun x hx => i64_in (hg x hx)) (by simpa [maxLen] using hl) ⟨hm.1, hm.2⟩ ⟨hk.1, hk.2⟩) (fun r S h => h.1) (vs := [v0, v1, v2, v3]) ?_
  simp only [VRelL, VRel]
  exact ⟨v0, _, rfl, z0, v1, _, rfl, z1, v2, _, rfl, z2, v3, _, rfl, z3, rfl⟩
end
end Go.Proofs.Ytfbpcjkhgiickaa.Pay
