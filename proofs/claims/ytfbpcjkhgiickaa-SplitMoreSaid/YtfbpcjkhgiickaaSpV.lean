/- Law SplitMore. No statement of the seed is proved here. -/
import Derived.Test.YtfbpcjkhgiickaaSpU
import Derived.Test.YtfbpcjkhgiickaaSpS
namespace Go.Proofs.Ytfbpcjkhgiickaa.Pay
open Go Go.RowKit
set_option linter.unusedVariables false
set_option linter.unusedSimpArgs false
set_option linter.unusedSectionVars false

theorem map_take1 {α β : Type} (f : α → β) {l : List α} {k : Nat} (h : k < l.length) : (l.take (k + 1)).map f = (l.take k).map f ++ [f l[k]] := by
  rw [List.take_add_one, List.getElem?_eq_getElem h, List.map_append]; rfl
theorem sum_map_le (f : Int → Int) (m : Int) : ∀ l : List Int, (∀ x ∈ l, f x ≤ m) → (l.map f).sum ≤ l.length * m
  | [], _ => by simp
  | x :: l, h => by
    have ih := sum_map_le f m l fun y hy => h y (by simp [hy])
    have := h x (by simp)
    rw [List.map_cons, List.sum_cons, List.length_cons, Int.natCast_add, Int.add_mul]; omega
set_option maxHeartbeats 4000000 in
theorem splitMore_ok (T m : Int) (ns : List Int) (hT : 0 ≤ T ∧ T ≤ 4294967295) (hm : 0 ≤ m ∧ m ≤ 4294967295) (hns : ∀ x ∈ ns, 0 ≤ x ∧ x ≤ 18446744073709551615) (hl : ns.length ≤ 9223372036854775807) : Gives Try.prog 6 [.d (.int .u32 T), .d (.int .u32 m), .d (.list 1 (ns.map (.int .u64)))] (.d (.bool true)) := by
  obtain ⟨f, hf⟩ : ∃ f : Int → Int, (fun x => x % 1099511627776) = f := ⟨_, rfl⟩
  have hfb : ∀ x, 0 ≤ f x ∧ f x < 1099511627776 := fun x => by rw [← hf]; simp only; omega
  have e1 : IntKind.i64.wrap T = T := wrapI (by omega) (by omega)
  have e2 : IntKind.i64.wrap m = m := wrapI (by omega) (by omega)
  have e3 : IntKind.i64.wrap (T + m) = T + m := wrapI (by omega) (by omega)
  obtain ⟨A, hA⟩ : ∃ A : Nat → List D, A = fun k => ((ns.take k).map f).map dI := ⟨_, rfl⟩
  obtain ⟨B, hB⟩ : ∃ B : Nat → List D, B = fun k => (((ns.take k).map f).map (2 * ·)).map dI := ⟨_, rfl⟩
  have A0 : A 0 = [] := by rw [hA]; rfl
  have B0 : B 0 = [] := by rw [hB]; rfl
  have AS : ∀ k (h : k < ns.length), A (k + 1) = A k ++ [dI (f ns[k])] := fun k h => by rw [hA]; simp only [map_take1 f h, List.map_append]; rfl
  have BS : ∀ k (h : k < ns.length), B (k + 1) = B k ++ [dI (2 * f ns[k])] := fun k h => by rw [hB]; simp only [map_take1 f h, List.map_append]; rfl
  have AL : ∀ k, k ≤ ns.length → (A k).length = k := fun k h => by rw [hA]; simp; omega
  have BL : ∀ k, k ≤ ns.length → (B k).length = k := fun k h => by rw [hB]; simp; omega
  have AN : A ns.length = (ns.map f).map dI := by rw [hA]; simp only [List.take_of_length_le (Nat.le_refl _)]
  have BN : B ns.length = ((ns.map f).map (2 * ·)).map dI := by rw [hB]; simp only [List.take_of_length_le (Nat.le_refl _)]
  clear hA hB
  refine Gives.enter tabOk Try.func6 rfl (by show 3 ≤ 116; decide) ?_
  simp only [Try.f6]
  refine WpC.seq (WpC.ops tabOk (r := []) (by simp -implicitDefEqProofs [e1, e2, e3, A0, B0] <;> rfl) rfl ?_)
  refine WpC.seq ?_
  refine WpC.seq (WpC.ops tabOk (r := []) (by simp -implicitDefEqProofs [e1, e2, e3, A0, B0] <;> rfl) rfl ?_)
  refine WpC.condD ((60 : Int) < ns.length) (by simp -implicitDefEqProofs [e1, e2, e3, A0, B0]) (fun d24 => ?_) (fun d24 => ?_)
  · refine WpC.seq ?_
    refine WpC.region ?_
    refine WpO.data (by simp) rfl (by simp -implicitDefEqProofs [e1, e2, e3, A0, B0, d24] <;> rfl) (by simp -implicitDefEqProofs [e1, e2, e3, A0, B0, d24] <;> rfl) (by simp -implicitDefEqProofs [e1, e2, e3, A0, B0, d24] <;> rfl) call_8 (by simp) (awake4_ok) (by rfl) (by simp -implicitDefEqProofs [e1, e2, e3, A0, B0, d24] <;> rfl) ?_
    refine WpO.run tabOk 1 (by simp -implicitDefEqProofs [e1, e2, e3, A0, B0, d24] <;> first | exact ⟨rfl, rfl⟩ | rfl) ?_
    refine WpO.nil ?_
    refine WpC.ret ?_
    try simp only [blockQ, seqQ]
    refine retD_i (by simp -implicitDefEqProofs [e1, e2, e3, A0, B0, d24] <;> rfl) (by simp -implicitDefEqProofs [e1, e2, e3, A0, B0, d24] <;> rfl) ?_
    simp -implicitDefEqProofs [e1, e2, e3, A0, B0, d24]
  · have hn60 : ns.length ≤ 60 := by omega
    refine WpC.skip ?_
    refine WpC.seq (WpC.ops tabOk (r := []) (by simp -implicitDefEqProofs [e1, e2, e3, A0, B0, d24] <;> rfl) rfl ?_)
    refine WpC.seq ?_
    refine WpC.gh (Gh.nilArr 3 1 (t := 7) (by simp) (by simp)) ?_
    refine WpC.gh (Gh.nilArr 3 1 (t := 8) (by simp) (by simp)) ?_
    refine WpC.gh (Gh.nilArr 3 1 (t := 9) (by simp) (by simp)) ?_
    refine WpC.seq (WpC.ops tabOk (r := []) (by simp -implicitDefEqProofs [e1, e2, e3, A0, B0, d24] <;> rfl) rfl ?_)
    refine WpC.block ?_
    refine WpC.loopK [0, 1, 26, 27] [7, 8, 9, 28] (ns.length) (() : Unit) (fun k _ => [(7, .sl 0 k), (8, .sl 1 k), (9, .sl 2 k), (28, .d (.int .i64 k))]) (fun k _ => [.arr 3 1 (A k), .arr 3 1 (B k), .arr 3 1 (List.replicate k (dI 1))]) (fun k _ => True) (by simp -implicitDefEqProofs [e1, e2, e3, A0, B0, d24] <;> rfl) (Gh.cut' [7, 8, 9, 28, 0, 1, 26, 27] 3 (by simp -implicitDefEqProofs [e1, e2, e3, A0, B0, d24]) (by simp -implicitDefEqProofs [e1, e2, e3, A0, B0, d24]) rfl (by simp) (by simp) (by simp)) (by simp) ?_
    rintro k ⟨⟩ hk hi
    simp only [List.cons_append, List.nil_append]
    refine WpC.seq (WpC.ops tabOk (r := []) (by simp -implicitDefEqProofs [e1, e2, e3, A0, B0, d24] <;> rfl) rfl ?_)
    refine WpC.seq (WpC.condD (k < ns.length) (by simp -implicitDefEqProofs [e1, e2, e3, A0, B0, d24] <;> omega) (fun hlt => ?_) (fun hge => ?_))
    · refine WpC.skip ?_
      obtain ⟨x, hx⟩ : ∃ x, ns[k] = x := ⟨_, rfl⟩
      have hxb := hns x (hx ▸ List.getElem_mem hlt)
      have ha1 := AS k hlt
      have ha2 := BS k hlt
      rw [hx] at ha1 ha2
      have hAl := AL k hk
      have hBl := BL k hk
      have ha3 := rep_add 1 k
      have hfx := hfb x
      have u1 : x.tmod 1099511627776 = f x := by rw [← hf]; exact Int.tmod_eq_emod_of_nonneg hxb.1
      have u2 : IntKind.i64.wrap (f x) = f x := wrapI (by omega) (by omega)
      have u3 : IntKind.i64.wrap (2 * f x) = 2 * f x := wrapI (by omega) (by omega)
      have hkw : IntKind.i64.wrap ((k : Int) + 1) = k + 1 := wrapI (by omega) (by omega)
      have hks : k ≤ 8589934591 := by omega
      refine WpC.seq ?_
      refine WpC.block ?_
      refine WpC.seq (WpC.ops tabOk (r := []) (by simp -implicitDefEqProofs [e1, e2, e3, A0, B0, d24, hlt, hx, u1, u2, u3, hkw, hks, hAl, hBl] <;> rfl) rfl ?_)
      refine WpC.seq (WpC.ops tabOk (r := []) (by simp -implicitDefEqProofs [e1, e2, e3, A0, B0, d24, hlt, hx, u1, u2, u3, hkw, hks, hAl, hBl] <;> rfl) rfl ?_)
      refine WpC.ops tabOk (r := []) (by simp -implicitDefEqProofs [e1, e2, e3, A0, B0, d24, hlt, hx, u1, u2, u3, hkw, hks, hAl, hBl] <;> rfl) rfl ?_
      refine WpC.ops tabOk (r := []) (by simp -implicitDefEqProofs [e1, e2, e3, A0, B0, d24, hlt, hx, u1, u2, u3, hkw, hks, hAl, hBl] <;> rfl) rfl ?_
      exact ⟨hlt, (), trivial, Gh.pick [7, 8, 9, 28, 0, 1, 26, 27] [4, 6, 8] (by simp -implicitDefEqProofs [e1, e2, e3, A0, B0, d24, hlt, hx, u1, u2, u3, hkw, hks, hAl, hBl, ha1, ha2, ha3]; rfl) (by simp -implicitDefEqProofs [e1, e2, e3, A0, B0, d24, hlt, hx, u1, u2, u3, hkw, hks, hAl, hBl, ha1, ha2, ha3]) (by simp) (by simp) (by simp; rfl) (by simp -implicitDefEqProofs [e1, e2, e3, A0, B0, d24, hlt, hx, u1, u2, u3, hkw, hks, hAl, hBl, ha1, ha2, ha3]) (by simp)⟩
    · refine WpC.exit ?_
      have hkn : k = ns.length := by omega
      subst hkn
      obtain ⟨ws, hws⟩ : ∃ ws, ns.map f = ws := ⟨_, rfl⟩
      have hwl : ws.length = ns.length := by rw [← hws]; simp
      have hw0 : ∀ x ∈ ws, 0 ≤ x ∧ x < 1099511627776 := fun x hx => by
        rw [← hws] at hx
        obtain ⟨y, _, rfl⟩ := List.mem_map.1 hx
        exact hfb y
      have hsum : ws.sum ≤ 60 * 1099511627776 := by
        have := sum_map_le f 1099511627776 ns fun x _ => by have := hfb x; omega
        rw [hws] at this
        omega
      rw [hws] at AN BN
      have hANl : (A ns.length).length = ns.length := AL _ (Nat.le_refl _)
      have hBNl : (B ns.length).length = ns.length := BL _ (Nat.le_refl _)
      have hTi : in64 T := by unfold in64; omega
      have hTm : in64 (T + m) := by unfold in64; omega
      obtain ⟨tw1, tw2⟩ := twice_sp (T := T) (ws := ws) (by omega) hT.1 (fun x hx => (hw0 x hx).1) (by omega)
      have s1 := splitL_ok T ws hTi (fun x hx => by have := hw0 x hx; unfold in64; omega) (by omega)
      have s2 := splitL_ok T (ws.map (2 * ·)) hTi (fun x hx => by obtain ⟨y, hy, rfl⟩ := List.mem_map.1 hx; have := hw0 y hy; unfold in64; omega) (by simp; omega)
      have s3 := splitL_ok T (List.replicate ns.length 1) hTi (fun x hx => by rw [(List.mem_replicate.1 hx).2]; unfold in64; omega) (by simp; omega)
      have s4 := splitL_ok (T + m) (List.replicate ns.length 1) hTm (fun x hx => by rw [(List.mem_replicate.1 hx).2]; unfold in64; omega) (by simp; omega)
      rw [tw1, tw2] at s2
      rw [← AN] at s1
      rw [← BN] at s2
      rw [List.map_replicate] at s3 s4
      obtain ⟨e, he⟩ : ∃ e, spE T ws = e := ⟨_, rfl⟩
      obtain ⟨Q, hQ⟩ : ∃ Q, spS T ws = Q := ⟨_, rfl⟩
      have hQn : Q.length ≤ 60 := by rw [← hQ]; unfold spS; split <;> simp; omega
      rw [he, hQ] at s1 s2
      have hon : ∃ g C D, spE T (List.replicate ns.length 1) = g ∧ spE (T + m) (List.replicate ns.length 1) = g ∧ spS T (List.replicate ns.length 1) = C ∧ spS (T + m) (List.replicate ns.length 1) = D ∧ C.length = D.length ∧ C.length ≤ 60 ∧ ∀ i (h : i < C.length) (h' : i < D.length), C[i] ≤ D[i] := by
        by_cases hz : ns.length = 0
        · refine ⟨_, _, _, rfl, ?_, rfl, rfl, ?_, ?_, ?_⟩
          all_goals rw [hz]
          · rw [spE_ok (by simp) (by omega) (by simp), spE_ok (by simp) (by omega) (by simp)]
          · simp [spS]
          · simp [spS]
          · intro i h; simp [spS] at h
        · obtain ⟨t, ht⟩ : ∃ t : Nat, T = t := ⟨T.toNat, by omega⟩
          obtain ⟨u, hu⟩ : ∃ u : Nat, T + m = u := ⟨(T + m).toNat, by omega⟩
          obtain ⟨p1, p2⟩ := even_pt (t := t) (n := ns.length) (c := 1) (by omega) hn60 (by decide) (by omega)
          obtain ⟨q1, q2⟩ := even_pt (t := u) (n := ns.length) (c := 1) (by omega) hn60 (by decide) (by omega)
          rw [← ht] at p1 p2
          rw [← hu] at q1 q2
          refine ⟨0, _, _, p1, q1, p2, q2, by simp, by simpa using hn60, fun i h h' => ?_⟩
          simp only [List.getElem_map, List.getElem_range]
          have := evF_mono (n := ns.length) (i := i) (show t ≤ u by omega)
          omega
      obtain ⟨g, C, D, hg1, hg2, hC, hD, hCD, hC60, hle⟩ := hon
      rw [hg1, hC] at s3
      rw [hg2, hD] at s4
      have hsm := same_ok Q Q (by omega) (by omega)
      simp only [decide_true] at hsm
      refine WpC.seq ?_
      refine WpC.region ?_
      refine WpO.run tabOk 3 (by simp -implicitDefEqProofs [e1, e2, e3, A0, B0, d24, hCD, hANl, hBNl] <;> first | exact ⟨rfl, rfl⟩ | rfl) ?_
      refine WpO.gh (Gh.frz [0]) ?_
      refine WpO.data (by simp) rfl (by simp -implicitDefEqProofs [e1, e2, e3, A0, B0, d24, hCD, hANl, hBNl] <;> rfl) (by simp -implicitDefEqProofs [e1, e2, e3, A0, B0, d24, hCD, hANl, hBNl] <;> rfl) (by simp -implicitDefEqProofs [e1, e2, e3, A0, B0, d24, hCD, hANl, hBNl] <;> rfl) call_9 (by simp) ( s1) (by rfl) (by simp -implicitDefEqProofs [e1, e2, e3, A0, B0, d24, hCD, hANl, hBNl] <;> rfl) ?_
      refine WpO.run tabOk 5 (by simp -implicitDefEqProofs [e1, e2, e3, A0, B0, d24, hCD, hANl, hBNl] <;> first | exact ⟨rfl, rfl⟩ | rfl) ?_
      refine WpO.nil ?_
      refine WpC.seq ?_
      refine WpC.region ?_
      refine WpO.run tabOk 3 (by simp -implicitDefEqProofs [e1, e2, e3, A0, B0, d24, hCD, hANl, hBNl] <;> first | exact ⟨rfl, rfl⟩ | rfl) ?_
      refine WpO.gh (Gh.frz [1]) ?_
      refine WpO.data (by simp) rfl (by simp -implicitDefEqProofs [e1, e2, e3, A0, B0, d24, hCD, hANl, hBNl] <;> rfl) (by simp -implicitDefEqProofs [e1, e2, e3, A0, B0, d24, hCD, hANl, hBNl] <;> rfl) (by simp -implicitDefEqProofs [e1, e2, e3, A0, B0, d24, hCD, hANl, hBNl] <;> rfl) call_9 (by simp) ( s2) (by rfl) (by simp -implicitDefEqProofs [e1, e2, e3, A0, B0, d24, hCD, hANl, hBNl] <;> rfl) ?_
      refine WpO.run tabOk 5 (by simp -implicitDefEqProofs [e1, e2, e3, A0, B0, d24, hCD, hANl, hBNl] <;> first | exact ⟨rfl, rfl⟩ | rfl) ?_
      refine WpO.nil ?_
      refine WpC.seq ?_
      refine WpC.region ?_
      refine WpO.run tabOk 3 (by simp -implicitDefEqProofs [e1, e2, e3, A0, B0, d24, hCD, hANl, hBNl] <;> first | exact ⟨rfl, rfl⟩ | rfl) ?_
      refine WpO.gh (Gh.frz [2]) ?_
      refine WpO.data (by simp) rfl (by simp -implicitDefEqProofs [e1, e2, e3, A0, B0, d24, hCD, hANl, hBNl] <;> rfl) (by simp -implicitDefEqProofs [e1, e2, e3, A0, B0, d24, hCD, hANl, hBNl] <;> rfl) (by simp -implicitDefEqProofs [e1, e2, e3, A0, B0, d24, hCD, hANl, hBNl] <;> rfl) call_9 (by simp) ( s3) (by rfl) (by simp -implicitDefEqProofs [e1, e2, e3, A0, B0, d24, hCD, hANl, hBNl] <;> rfl) ?_
      refine WpO.run tabOk 5 (by simp -implicitDefEqProofs [e1, e2, e3, A0, B0, d24, hCD, hANl, hBNl] <;> first | exact ⟨rfl, rfl⟩ | rfl) ?_
      refine WpO.nil ?_
      refine WpC.seq ?_
      refine WpC.region ?_
      refine WpO.run tabOk 6 (by simp -implicitDefEqProofs [e1, e2, e3, A0, B0, d24, hCD, hANl, hBNl] <;> first | exact ⟨rfl, rfl⟩ | rfl) ?_
      refine WpO.data (by simp) rfl (by simp -implicitDefEqProofs [e1, e2, e3, A0, B0, d24, hCD, hANl, hBNl] <;> rfl) (by simp -implicitDefEqProofs [e1, e2, e3, A0, B0, d24, hCD, hANl, hBNl] <;> rfl) (by simp -implicitDefEqProofs [e1, e2, e3, A0, B0, d24, hCD, hANl, hBNl] <;> rfl) call_9 (by simp) (s4) (by rfl) (by simp -implicitDefEqProofs [e1, e2, e3, A0, B0, d24, hCD, hANl, hBNl] <;> rfl) ?_
      refine WpO.run tabOk 5 (by simp -implicitDefEqProofs [e1, e2, e3, A0, B0, d24, hCD, hANl, hBNl] <;> first | exact ⟨rfl, rfl⟩ | rfl) ?_
      refine WpO.nil ?_
      refine WpC.seq ?_
      refine WpC.seq ?_
      refine WpC.val 99 (.d (.bool (false))) ?_ ?_
      · refine WpC.region ?_
        refine WpO.run tabOk 4 (by simp -implicitDefEqProofs [e1, e2, e3, A0, B0, d24, hCD, hANl, hBNl] <;> first | exact ⟨rfl, rfl⟩ | rfl) ?_
        refine WpO.splitB 82 (by simp -implicitDefEqProofs [e1, e2, e3, A0, B0, d24, hCD, hANl, hBNl] <;> rfl) (by rfl) (fun g82 => ?_) (fun g82 => ?_)
        · try (exfalso; revert g82; simp; done)
          all_goals
            have g82' := g82; first | simp only [dT, dF] at g82' | try simp at g82'
            refine WpO.run tabOk 17 (by simp -implicitDefEqProofs [e1, e2, e3, A0, B0, d24, hCD, hANl, hBNl, g82] <;> first | exact ⟨rfl, rfl⟩ | rfl) ?_
            refine WpO.nil ?_
            refine ⟨rfl, Gh.only 99 22 ?_ (by first | rfl | simp -implicitDefEqProofs [e1, e2, e3, A0, B0, d24, hCD, hANl, hBNl, g82]) (by rfl)⟩
            simp -implicitDefEqProofs [e1, e2, e3, A0, B0, d24, hCD, hANl, hBNl, g82, g82']
        · try (exfalso; revert g82; simp; done)
          all_goals
            have g82' := g82; first | simp only [dT, dF] at g82' | try simp at g82'
            refine WpO.run tabOk 5 (by simp -implicitDefEqProofs [e1, e2, e3, A0, B0, d24, hCD, hANl, hBNl, g82] <;> first | exact ⟨rfl, rfl⟩ | rfl) ?_
            refine WpO.splitB 87 (by simp -implicitDefEqProofs [e1, e2, e3, A0, B0, d24, hCD, hANl, hBNl, g82] <;> rfl) (by rfl) (fun g87 => ?_) (fun g87 => ?_)
            · try (exfalso; revert g87; simp; done)
              all_goals
                have g87' := g87; first | simp only [dT, dF] at g87' | try simp at g87'
                refine WpO.run tabOk 12 (by simp -implicitDefEqProofs [e1, e2, e3, A0, B0, d24, hCD, hANl, hBNl, g82, g87] <;> first | exact ⟨rfl, rfl⟩ | rfl) ?_
                refine WpO.nil ?_
                refine ⟨rfl, Gh.only 99 23 ?_ (by first | rfl | simp -implicitDefEqProofs [e1, e2, e3, A0, B0, d24, hCD, hANl, hBNl, g82, g87]) (by rfl)⟩
                simp -implicitDefEqProofs [e1, e2, e3, A0, B0, d24, hCD, hANl, hBNl, g82, g87, g82', g87']
            · try (exfalso; revert g87; simp; done)
              all_goals
                have g87' := g87; first | simp only [dT, dF] at g87' | try simp at g87'
                refine WpO.run tabOk 2 (by simp -implicitDefEqProofs [e1, e2, e3, A0, B0, d24, hCD, hANl, hBNl, g82, g87] <;> first | exact ⟨rfl, rfl⟩ | rfl) ?_
                refine WpO.data (by simp) rfl (by simp -implicitDefEqProofs [e1, e2, e3, A0, B0, d24, hCD, hANl, hBNl, g82, g87] <;> rfl) (by simp -implicitDefEqProofs [e1, e2, e3, A0, B0, d24, hCD, hANl, hBNl, g82, g87] <;> rfl) (by simp -implicitDefEqProofs [e1, e2, e3, A0, B0, d24, hCD, hANl, hBNl, g82, g87] <;> rfl) call_12 (by simp) (hsm) (by rfl) (by simp -implicitDefEqProofs [e1, e2, e3, A0, B0, d24, hCD, hANl, hBNl, g82, g87] <;> rfl) ?_
                refine WpO.run tabOk 3 (by simp -implicitDefEqProofs [e1, e2, e3, A0, B0, d24, hCD, hANl, hBNl, g82, g87] <;> first | exact ⟨rfl, rfl⟩ | rfl) ?_
                refine WpO.splitB 93 (by simp -implicitDefEqProofs [e1, e2, e3, A0, B0, d24, hCD, hANl, hBNl, g82, g87] <;> rfl) (by rfl) (fun g93 => ?_) (fun g93 => ?_)
                · try (exfalso; revert g93; simp; done)
                  all_goals
                    have g93' := g93; first | simp only [dT, dF] at g93' | try simp at g93'
                    refine WpO.run tabOk 6 (by simp -implicitDefEqProofs [e1, e2, e3, A0, B0, d24, hCD, hANl, hBNl, g82, g87, g93] <;> first | exact ⟨rfl, rfl⟩ | rfl) ?_
                    refine WpO.nil ?_
                    refine ⟨rfl, Gh.only 99 24 ?_ (by first | rfl | simp -implicitDefEqProofs [e1, e2, e3, A0, B0, d24, hCD, hANl, hBNl, g82, g87, g93]) (by rfl)⟩
                    simp -implicitDefEqProofs [e1, e2, e3, A0, B0, d24, hCD, hANl, hBNl, g82, g87, g93, g82', g87', g93']
                · try (exfalso; revert g93; simp; done)
                  all_goals
                    have g93' := g93; first | simp only [dT, dF] at g93' | try simp at g93'
                    refine WpO.run tabOk 6 (by simp -implicitDefEqProofs [e1, e2, e3, A0, B0, d24, hCD, hANl, hBNl, g82, g87, g93] <;> first | exact ⟨rfl, rfl⟩ | rfl) ?_
                    refine WpO.nil ?_
                    refine ⟨rfl, Gh.only 99 24 ?_ (by first | rfl | simp -implicitDefEqProofs [e1, e2, e3, A0, B0, d24, hCD, hANl, hBNl, g82, g87, g93]) (by rfl)⟩
                    simp -implicitDefEqProofs [e1, e2, e3, A0, B0, d24, hCD, hANl, hBNl, g82, g87, g93, g82', g87', g93']
      refine WpC.condF (by simp -implicitDefEqProofs [e1, e2, e3, A0, B0, d24, hCD, hANl, hBNl] <;> rfl) ?_
      refine WpC.skip ?_
      refine WpC.seq ?_
      refine WpC.seq (WpC.ops tabOk (r := []) (by simp -implicitDefEqProofs [e1, e2, e3, A0, B0, d24, hCD, hANl, hBNl] <;> rfl) rfl ?_)
      refine WpC.block ?_
      refine WpC.loopK [17, 19, 101] [102] (C.length) (() : Unit) (fun k _ => [(102, .d (.int .i64 k))]) (fun k _ => []) (fun k _ => True) (by simp -implicitDefEqProofs [e1, e2, e3, A0, B0, d24, hCD, hANl, hBNl] <;> rfl) (Gh.cut' [102, 17, 19, 101] 0 (by simp -implicitDefEqProofs [e1, e2, e3, A0, B0, d24, hCD, hANl, hBNl]) (by simp -implicitDefEqProofs [e1, e2, e3, A0, B0, d24, hCD, hANl, hBNl]) rfl (by simp) (by simp) (by simp)) (by simp) ?_
      rintro k ⟨⟩ hk hi
      simp only [List.cons_append, List.nil_append]
      refine WpC.seq (WpC.ops tabOk (r := []) (by simp -implicitDefEqProofs [e1, e2, e3, A0, B0, d24, hCD, hANl, hBNl] <;> rfl) rfl ?_)
      refine WpC.seq (WpC.condD (k < C.length) (by simp -implicitDefEqProofs [e1, e2, e3, A0, B0, d24, hCD, hANl, hBNl] <;> omega) (fun hlt => ?_) (fun hge => ?_))
      · refine WpC.skip ?_
        have hkD : k < D.length := by omega
        obtain ⟨x, hx⟩ : ∃ x, C[k] = x := ⟨_, rfl⟩
        obtain ⟨y, hy⟩ : ∃ y, D[k] = y := ⟨_, rfl⟩
        have hxy := hle k hlt hkD
        rw [hx, hy] at hxy
        have hxy' : ¬ y < x := by omega
        have hkw : IntKind.i64.wrap ((k : Int) + 1) = k + 1 := wrapI (by omega) (by omega)
        refine WpC.seq ?_
        refine WpC.block ?_
        refine WpC.seq (WpC.ops tabOk (r := []) (by simp -implicitDefEqProofs [e1, e2, e3, A0, B0, d24, hCD, hANl, hBNl, hlt, hx, hy, hkD, hxy, hkw] <;> rfl) rfl ?_)
        refine WpC.seq (WpC.drawn tabOk (by kernel_rfl) 0 (by simp) ?_)
        refine DrO.run (fz := []) 3 (by simp -implicitDefEqProofs [e1, e2, e3, A0, B0, d24, hCD, hANl, hBNl, hlt, hx, hy, hkD, hxy, hkw] <;> first | exact ⟨rfl, rfl, rfl, rfl⟩ | rfl) ?_
        refine DrO.run (fz := []) 3 (by simp -implicitDefEqProofs [e1, e2, e3, A0, B0, d24, hCD, hANl, hBNl, hlt, hx, hy, hkD, hxy, hkw] <;> first | exact ⟨rfl, rfl, rfl, rfl⟩ | rfl) ?_
        refine DrO.run (fz := []) 3 (by simp -implicitDefEqProofs [e1, e2, e3, A0, B0, d24, hCD, hANl, hBNl, hlt, hx, hy, hkD, hxy, hkw] <;> first | exact ⟨rfl, rfl, rfl, rfl⟩ | rfl) ?_
        refine DrO.nil ⟨by kernel_rfl, ?_⟩
        refine WpC.condF (by simp -implicitDefEqProofs [e1, e2, e3, A0, B0, d24, hCD, hANl, hBNl, hlt, hx, hy, hkD, hxy, hkw] <;> rfl) ?_
        refine WpC.skip ?_
        refine WpC.ops tabOk (r := []) (by simp -implicitDefEqProofs [e1, e2, e3, A0, B0, d24, hCD, hANl, hBNl, hlt, hx, hy, hkD, hxy, hkw] <;> rfl) rfl ?_
        exact ⟨hlt, (), trivial, Gh.cut' [102, 17, 19, 101] 0 (by simp -implicitDefEqProofs [e1, e2, e3, A0, B0, d24, hCD, hANl, hBNl, hlt, hx, hy, hkD, hxy, hkw]) (by simp) rfl (by simp) (by simp) (by simp)⟩
      · refine WpC.exit ?_
        have hkn : k = C.length := by omega
        subst hkn
        refine WpC.seq ?_
        refine WpC.region ?_
        refine WpO.data (by simp) rfl (by simp -implicitDefEqProofs [e1, e2, e3, A0, B0, d24, hCD, hANl, hBNl] <;> rfl) (by simp -implicitDefEqProofs [e1, e2, e3, A0, B0, d24, hCD, hANl, hBNl] <;> rfl) (by simp -implicitDefEqProofs [e1, e2, e3, A0, B0, d24, hCD, hANl, hBNl] <;> rfl) call_8 (by simp) (awake4_ok) (by rfl) (by simp -implicitDefEqProofs [e1, e2, e3, A0, B0, d24, hCD, hANl, hBNl] <;> rfl) ?_
        refine WpO.run tabOk 1 (by simp -implicitDefEqProofs [e1, e2, e3, A0, B0, d24, hCD, hANl, hBNl] <;> first | exact ⟨rfl, rfl⟩ | rfl) ?_
        refine WpO.nil ?_
        refine WpC.ret ?_
        try simp only [blockQ, seqQ]
        refine retD_i (by simp -implicitDefEqProofs [e1, e2, e3, A0, B0, d24, hCD, hANl, hBNl] <;> rfl) (by simp -implicitDefEqProofs [e1, e2, e3, A0, B0, d24, hCD, hANl, hBNl] <;> rfl) ?_
        simp -implicitDefEqProofs [e1, e2, e3, A0, B0, d24, hCD, hANl, hBNl]
theorem has_nums {g t u b1 b2 : Nat} {k : IntKind} {z : List D} {ds : List D} (h : HasT tab (g + 2) t ds) (ht : tab t = some ⟨.slice u, b1, b2, z⟩) {c1 c2 : Nat} {z2 : List D} (hu : tab u = some ⟨.int k, c1, c2, z2⟩) (hag : TI.ag ⟨.int k, c1, c2, z2⟩ = false := by rfl) :
    ∃ l : List Int, (∀ n ∈ l, k.min ≤ n ∧ n ≤ k.max) ∧ l.length ≤ maxLen ∧ ds = [.list c1 (l.map (.int k))] := has_ints h ht hu hag
section
variable {w : World}
theorem splitMore_row {e0 e1 e2 : List D} {v0 v1 v2 : Value} {i0 i1 i2 : TI} (y0 : HasT tab 8 35 e0) (y1 : HasT tab 8 35 e1) (y2 : HasT tab 8 38 e2) (t0 : some i0 = tab 35) (t1 : some i1 = tab 35) (t2 : some i2 = tab 38)
    (z0 : DRel w (lt w) (elemD i0 e0) v0) (z1 : DRel w (lt w) (elemD i1 e1) v1) (z2 : DRel w (lt w) (elemD i2 e2) v2) :
    Calls Try.prog 6 #[v0, v1, v2] w fun e w' => e = .returned (.bool true) ∧ Below w.heap.size w w' := by
  rw [tab_35] at t0 t1; cases t0; cases t1
  rw [tab_38] at t2; cases t2
  obtain ⟨n, rfl, hn⟩ := has_num y0 tab_35
  obtain ⟨m, rfl, hm⟩ := has_num y1 tab_35
  obtain ⟨l, hg, hl, rfl⟩ := has_ints y2 tab_38 tab_34
  refine WpF.law (splitMore_ok n m l ⟨hn.1, hn.2⟩ ⟨hm.1, hm.2⟩ (fun x hx => ⟨(hg x hx).1, (hg x hx).2⟩) (by simpa [maxLen] using hl)) (fun r S h => h.1) (vs := [v0, v1, v2]) ?_
  simp only [VRelL, VRel]
  exact ⟨v0, _, rfl, z0, v1, _, rfl, z1, v2, _, rfl, z2, rfl⟩
end
end Go.Proofs.Ytfbpcjkhgiickaa.Pay
