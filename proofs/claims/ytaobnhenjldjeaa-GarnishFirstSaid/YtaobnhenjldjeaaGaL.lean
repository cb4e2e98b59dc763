/- Law GarnishFirst. No statement of the seed is proved here. -/
import Derived.Test.YtaobnhenjldjeaaGaK
namespace Go.Proofs.Ytaobnhenjldjeaa.Pay
open Go Go.RowKit
set_option linter.unusedVariables false
set_option linter.unusedSimpArgs false
set_option linter.unusedSectionVars false

theorem priF_rev (l : List Ord) {i : Nat} (h : i < l.length) : priF l.reverse i = priF l (l.length - 1 - i) := by
  unfold priF
  rw [List.getElem?_reverse h]
theorem wantF_rev (l : List Ord) {i : Nat} (h : i < l.length) : wantF l.reverse i = wantF l (l.length - 1 - i) := by
  unfold wantF
  rw [List.getElem?_reverse h]
theorem chkE_rev (net prot : Int) (l : List Ord) : chkE net prot l.reverse = chkE net prot l := by
  unfold chkE
  rw [List.length_reverse, List.any_reverse, List.any_reverse]
theorem low_rev (l : List Ord) (p : Int) : lowS (priF l.reverse) (wantF l.reverse) l.length p = lowS (priF l) (wantF l) l.length p := by
  unfold lowS
  rw [← sumF_rev (fun i => if priF l i < p then wantF l i else 0)]
  exact sumF_congr fun i hi => by rw [priF_rev l hi, wantF_rev l hi]
theorem out_rev {A : Int} {l : List Ord} (g : GoodN A (priF l) (wantF l) l.length) (g' : GoodN A (priF l.reverse) (wantF l.reverse) l.length) (hu : unlike l l.length) {i : Nat} (hi : i < l.length) : outN A (priF l) (wantF l) l.length i = outN A (priF l.reverse) (wantF l.reverse) l.length (l.length - 1 - i) := by
  have hj : l.length - 1 - i < l.length := by omega
  have e : l.length - 1 - (l.length - 1 - i) = i := by omega
  rw [outN_alone g hi (unlike_sep hu hi), outN_alone g' hj fun j hj' hne => by
    rw [priF_rev l hj', priF_rev l hj, e]
    exact unlike_sep hu hi _ (by omega) (by omega)]
  rw [priF_rev l hj, wantF_rev l hj, e]
  unfold thN
  rw [low_rev]

set_option maxHeartbeats 40000000 in
theorem garnishFirst_ok (net prot : Int) (l : List Ord) (hl : l.length ≤ 9223372036854775807) (ho : ∀ o ∈ l, o.ok) : Gives Try.prog 9 [.d (dI net), .d (dI prot), .d (encOs l)] (.d (.bool true)) := by
  obtain ⟨F, hF⟩ : ∃ F : Nat → List D, F = fun k => (l.reverse.take k).map Ord.enc := ⟨_, rfl⟩
  have F0 : F 0 = [] := by rw [hF]; rfl
  have FS : ∀ k (h : k < l.length), F (k + 1) = F k ++ [(l[l.length - 1 - k]'(by omega)).enc] := fun k h => by
    rw [hF]
    simp only [List.take_add_one, List.getElem?_reverse h, List.getElem?_eq_getElem (show l.length - 1 - k < l.length by omega), List.map_append]; rfl
  have FL : ∀ k, k ≤ l.length → (F k).length = k := fun k h => by rw [hF]; simp; omega
  have FN : F l.length = l.reverse.map Ord.enc := by rw [hF]; simp only [List.take_of_length_le (show l.reverse.length ≤ l.length by simp)]
  clear hF
  refine Gives.enter tabOk Try.func9 rfl (by show 3 ≤ 112; decide) ?_
  simp only [Try.f9]
  refine WpC.seq (WpC.ops tabOk (r := []) (by simp -implicitDefEqProofs [F0] <;> rfl) rfl ?_)
  refine WpC.seq ?_
  refine WpC.seq (WpC.ops tabOk (r := []) (by simp -implicitDefEqProofs [F0] <;> rfl) rfl ?_)
  refine WpC.condD ((8 : Int) < l.length) (by simp -implicitDefEqProofs [F0]) (fun d18 => ?_) (fun d18 => ?_)
  · refine WpC.seq ?_
    refine WpC.region ?_
    refine WpO.data (by simp) rfl (by simp -implicitDefEqProofs [F0, d18] <;> rfl) (by simp -implicitDefEqProofs [F0, d18] <;> rfl) (by simp -implicitDefEqProofs [F0, d18] <;> rfl) call_10 (by simp) (awake15_ok) (by rfl) (by simp -implicitDefEqProofs [F0, d18] <;> rfl) ?_
    refine WpO.run tabOk 1 (by simp -implicitDefEqProofs [F0, d18] <;> first | exact ⟨rfl, rfl⟩ | rfl) ?_
    refine WpO.nil ?_
    refine WpC.ret ?_
    try simp only [blockQ, seqQ]
    refine retD_i (by simp -implicitDefEqProofs [F0, d18] <;> rfl) (by simp -implicitDefEqProofs [F0, d18] <;> rfl) ?_
    simp -implicitDefEqProofs [F0, d18]
  · have hl8 : l.length ≤ 8 := by omega
    have v1 := serveL_ok net prot l (by omega)
    have v2 := serveL_ok net prot l.reverse (by simp; omega)
    rw [chkE_rev] at v2
    have f1 := fun h => outI_facts (net := net) (prot := prot) (l := l) h
    have f2 := fun h => outI_facts (net := net) (prot := prot) (l := l.reverse) h
    have n1 := fun h => outI_none (net := net) (prot := prot) (l := l) h
    have n2 := fun h => outI_none (net := net) (prot := prot) (l := l.reverse) h
    have g1 := fun h => chk_good (net := net) (prot := prot) (l := l) h
    have g2 := fun h => chk_good (net := net) (prot := prot) (l := l.reverse) h
    rw [chkE_rev] at f2 n2 g2
    rw [List.length_reverse] at f2 g2
    obtain ⟨e, he⟩ : ∃ e, chkE net prot l = e := ⟨_, rfl⟩
    obtain ⟨X, hX⟩ : ∃ K, outI net prot l = K := ⟨_, rfl⟩
    obtain ⟨Y, hY⟩ : ∃ K, outI net prot l.reverse = K := ⟨_, rfl⟩
    rw [hX, he] at v1 f1 n1
    rw [hY, he] at v2 f2 n2
    rw [he] at g1 g2
    have hXY : X.length = Y.length := by
      by_cases h0 : e = 0
      · rw [(f1 h0).1, (f2 h0).1]
      · rw [n1 h0, n2 h0]
    have hXl : e = 0 → X.length = l.length := fun h0 => (f1 h0).1
    have hu0 : unlike l 0 := fun i j h1 h2 => by omega
    have w0 : IntKind.i64.wrap ((l.length : Int) - 1) = (l.length : Int) - 1 := wrapI (by omega) (by omega)
    refine WpC.skip ?_
    refine WpC.seq ?_
    refine WpC.seq (WpC.ops tabOk (r := []) (by simp -implicitDefEqProofs [F0, d18, w0, hXY] <;> rfl) rfl ?_)
    refine WpC.block ?_
    refine WpC.loopK [0, 1, 2, 21] [22] (l.length) (() : Unit) (fun k _ => [(22, .d (.int .i64 k))]) (fun k _ => []) (fun k _ => unlike l k) (by simp -implicitDefEqProofs [F0, d18, w0, hXY] <;> rfl) (Gh.cut' [22, 0, 1, 2, 21] 0 (by simp -implicitDefEqProofs [F0, d18, w0, hXY]) (by simp -implicitDefEqProofs [F0, d18, w0, hXY]) rfl (by simp) (by simp) (by simp)) (hu0) ?_
    rintro k ⟨⟩ hk hi
    simp only [List.cons_append, List.nil_append]
    refine WpC.seq (WpC.ops tabOk (r := []) (by simp -implicitDefEqProofs [F0, d18, w0, hXY] <;> rfl) rfl ?_)
    refine WpC.seq (WpC.condD (k < l.length) (by simp -implicitDefEqProofs [F0, d18, w0, hXY] <;> omega) (fun hlt => ?_) (fun hge => ?_))
    · refine WpC.skip ?_
      refine WpC.seq ?_
      refine WpC.block ?_
      refine WpC.seq (WpC.ops tabOk (r := []) (by simp -implicitDefEqProofs [F0, d18, w0, hXY, hlt] <;> rfl) rfl ?_)
      obtain ⟨i, rfl⟩ : ∃ i, i = k := ⟨k, rfl⟩
      have hiN : i < l.length := hlt
      obtain ⟨x, hx⟩ : ∃ x, l[i] = x := ⟨_, rfl⟩
      have hiu : unlike l i := hi
      have hiw : IntKind.i64.wrap ((i : Int) + 1) = (i : Int) + 1 := wrapI (by omega) (by omega)
      refine WpC.seq (WpC.ops tabOk (r := []) (by simp -implicitDefEqProofs [F0, d18, w0, hXY, hlt, hiN, hx, hiw] <;> rfl) rfl ?_)
      refine WpC.block ?_
      refine WpC.loopK [0, 1, 2, 7, 21, 22, 25] [26] (i) (() : Unit) (fun k _ => [(26, .d (.int .i64 k))]) (fun k _ => []) (fun k _ => ∀ j, j < k → priF l i ≠ priF l j) (by simp -implicitDefEqProofs [F0, d18, w0, hXY, hlt, hiN, hx, hiw] <;> rfl) (Gh.cut' [26, 0, 1, 2, 7, 21, 22, 25] 0 (by simp -implicitDefEqProofs [F0, d18, w0, hXY, hlt, hiN, hx, hiw]) (by simp -implicitDefEqProofs [F0, d18, w0, hXY, hlt, hiN, hx, hiw]) rfl (by simp) (by simp) (by simp)) (fun j h => by omega) ?_
      rintro k ⟨⟩ hk hi
      simp only [List.cons_append, List.nil_append]
      refine WpC.seq (WpC.ops tabOk (r := []) (by simp -implicitDefEqProofs [F0, d18, w0, hXY, hlt, hiN, hx, hiw] <;> rfl) rfl ?_)
      refine WpC.seq (WpC.condD (k < i) (by simp -implicitDefEqProofs [F0, d18, w0, hXY, hlt, hiN, hx, hiw] <;> omega) (fun hlt => ?_) (fun hge => ?_))
      · refine WpC.skip ?_
        have hkl : k < l.length := by omega
        obtain ⟨z, hz⟩ : ∃ x, l[k] = x := ⟨_, rfl⟩
        have hkw : IntKind.i64.wrap ((k : Int) + 1) = k + 1 := wrapI (by omega) (by omega)
        have hPk := priF_at hkl
        have hPi := priF_at hiN
        rw [hz] at hPk
        rw [hx] at hPi
        refine WpC.seq ?_
        refine WpC.block ?_
        refine WpC.seq (WpC.ops tabOk (r := []) (by simp -implicitDefEqProofs [F0, d18, w0, hXY, hlt, hiN, hx, hiw, hlt, hkl, hz, hkw] <;> rfl) rfl ?_)
        refine WpC.seq (WpC.drawn tabOk (by kernel_rfl) 0 (by simp) ?_)
        refine DrO.run (fz := []) 3 (by simp -implicitDefEqProofs [F0, d18, w0, hXY, hlt, hiN, hx, hiw, hlt, hkl, hz, hkw] <;> first | exact ⟨rfl, rfl, rfl, rfl⟩ | rfl) ?_
        refine DrO.run (fz := []) 3 (by simp -implicitDefEqProofs [F0, d18, w0, hXY, hlt, hiN, hx, hiw, hlt, hkl, hz, hkw] <;> first | exact ⟨rfl, rfl, rfl, rfl⟩ | rfl) ?_
        refine DrO.run (fz := []) 3 (by simp -implicitDefEqProofs [F0, d18, w0, hXY, hlt, hiN, hx, hiw, hlt, hkl, hz, hkw] <;> first | exact ⟨rfl, rfl, rfl, rfl⟩ | rfl) ?_
        refine DrO.run (fz := []) 2 (by simp -implicitDefEqProofs [F0, d18, w0, hXY, hlt, hiN, hx, hiw, hlt, hkl, hz, hkw] <;> first | exact ⟨rfl, rfl, rfl, rfl⟩ | rfl) ?_
        refine DrO.nil ⟨by kernel_rfl, ?_⟩
        refine WpC.condD (x.pri = z.pri) (by simp -implicitDefEqProofs [F0, d18, w0, hXY, hlt, hiN, hx, hiw, hlt, hkl, hz, hkw]) (fun d39 => ?_) (fun d39 => ?_)
        · refine WpC.seq ?_
          refine WpC.region ?_
          refine WpO.data (by simp) rfl (by simp -implicitDefEqProofs [F0, d18, w0, hXY, hlt, hiN, hx, hiw, hlt, hkl, hz, hkw, d39] <;> rfl) (by simp -implicitDefEqProofs [F0, d18, w0, hXY, hlt, hiN, hx, hiw, hlt, hkl, hz, hkw, d39] <;> rfl) (by simp -implicitDefEqProofs [F0, d18, w0, hXY, hlt, hiN, hx, hiw, hlt, hkl, hz, hkw, d39] <;> rfl) call_10 (by simp) (awake15_ok) (by rfl) (by simp -implicitDefEqProofs [F0, d18, w0, hXY, hlt, hiN, hx, hiw, hlt, hkl, hz, hkw, d39] <;> rfl) ?_
          refine WpO.run tabOk 1 (by simp -implicitDefEqProofs [F0, d18, w0, hXY, hlt, hiN, hx, hiw, hlt, hkl, hz, hkw, d39] <;> first | exact ⟨rfl, rfl⟩ | rfl) ?_
          refine WpO.nil ?_
          refine WpC.ret ?_
          try simp only [blockQ, seqQ]
          refine retD_i (by simp -implicitDefEqProofs [F0, d18, w0, hXY, hlt, hiN, hx, hiw, hlt, hkl, hz, hkw, d39] <;> rfl) (by simp -implicitDefEqProofs [F0, d18, w0, hXY, hlt, hiN, hx, hiw, hlt, hkl, hz, hkw, d39] <;> rfl) ?_
          simp -implicitDefEqProofs [F0, d18, w0, hXY, hlt, hiN, hx, hiw, hlt, hkl, hz, hkw, d39]
        · refine WpC.skip ?_
          refine WpC.ops tabOk (r := []) (by simp -implicitDefEqProofs [F0, d18, w0, hXY, hlt, hiN, hx, hiw, hlt, hkl, hz, hkw, d39] <;> rfl) rfl ?_
          exact ⟨hlt, (), fun j hj => by rcases Nat.lt_or_ge j k with q | q; exact hi j q; rw [show j = k by omega, hPi, hPk]; exact d39, Gh.cut' [26, 0, 1, 2, 7, 21, 22, 25] 0 (by simp -implicitDefEqProofs [F0, d18, w0, hXY, hlt, hiN, hx, hiw, hlt, hkl, hz, hkw, d39]) (by simp) rfl (by simp) (by simp) (by simp)⟩
      · refine WpC.exit ?_
        have hkn : i = k := by omega
        subst hkn
        have hun : unlike l (i + 1) := fun a b h1 h2 => by
          rcases Nat.lt_or_ge a i with q | q
          · exact hiu a b h1 q
          · rw [show a = i by omega]; exact hi b (by omega)
        refine WpC.ops tabOk (r := []) (by simp -implicitDefEqProofs [F0, d18, w0, hXY, hlt, hiN, hx, hiw] <;> rfl) rfl ?_
        exact ⟨hlt, (), hun, Gh.cut' [22, 0, 1, 2, 21] 0 (by simp -implicitDefEqProofs [F0, d18, w0, hXY, hlt, hiN, hx, hiw]) (by simp) rfl (by simp) (by simp) (by simp)⟩
    · refine WpC.exit ?_
      have hkn : k = l.length := by omega
      subst hkn
      have hun : unlike l l.length := hi
      refine WpC.seq (WpC.ops tabOk (r := []) (by simp -implicitDefEqProofs [F0, d18, w0, hXY] <;> rfl) rfl ?_)
      refine WpC.seq ?_
      refine WpC.gh (Gh.nilArr 35 4 (t := 9) (by simp) (by simp)) ?_
      refine WpC.seq (WpC.ops tabOk (r := []) (by simp -implicitDefEqProofs [F0, d18, w0, hXY] <;> rfl) rfl ?_)
      refine WpC.block ?_
      refine WpC.loopM [0, 1, 2] [9, 10] (fun x => l.length - x) (0 : Nat) (fun x => [(9, .sl 0 x), (10, .d (dI ((l.length : Int) - 1 - x)))]) (fun x => [.arr 35 4 (F x)]) (fun x => x ≤ l.length) (by simp -implicitDefEqProofs [F0, d18, w0, hXY] <;> rfl) (Gh.cut' [9, 10, 0, 1, 2] 1 (by simp -implicitDefEqProofs [F0, d18, w0, hXY]) (by simp -implicitDefEqProofs [F0, d18, w0, hXY]) rfl (by simp) (by simp) (by simp)) (by simp) ?_
      rintro x hi
      simp only [List.cons_append, List.nil_append]
      have hx0 : x ≤ l.length := hi
      refine WpC.seq ?_
      refine WpC.seq (WpC.ops tabOk (r := []) (by simp -implicitDefEqProofs [F0, d18, w0, hXY] <;> rfl) rfl ?_)
      refine WpC.condR (by simp -implicitDefEqProofs [F0, d18, w0, hXY] <;> rfl) (by rfl) (fun c47 => ?_) (fun c47 => ?_)
      · have c47' := c47; first | simp only [dT, dF] at c47' | try simp at c47'
        have hxl : x < l.length := by simp at c47; omega
        have hFS := FS x hxl
        have hFL := FL x hx0
        obtain ⟨z, hz⟩ : ∃ z, l[l.length - 1 - x]'(by omega) = z := ⟨_, rfl⟩
        obtain ⟨y, hy⟩ : ∃ y, l.length - 1 - x = y := ⟨_, rfl⟩
        have hyl : y < l.length := by omega
        have hzy : l[y] = z := by simp only [← hy]; exact hz
        have hyi : (l.length : Int) - 1 - x = y := by omega
        have hyw : IntKind.i64.wrap ((y : Int) - 1) = (l.length : Int) - 1 - ((x + 1 : Nat) : Int) := by rw [wrapI (by omega) (by omega)]; omega
        have hxs : x ≤ 8589934591 := by omega
        rw [hz] at hFS
        simp only [Ord.enc, Ord.cs] at hFS
        rw [hyi]
        obtain ⟨G, hG⟩ : ∃ G, F x = G := ⟨_, rfl⟩
        rw [hG] at hFS hFL
        refine WpC.skip ?_
        refine WpC.seq ?_
        refine WpC.block ?_
        refine WpC.ops tabOk (r := []) (by simp -implicitDefEqProofs [F0, d18, w0, hXY, c47, hyl, hzy, hyw, hxs, hG, hFL, hFS] <;> rfl) rfl ?_
        refine WpC.ops tabOk (r := []) (by simp -implicitDefEqProofs [F0, d18, w0, hXY, c47, hyl, hzy, hyw, hxs, hG, hFL, hFS] <;> rfl) rfl ?_
        exact ⟨x + 1, hxl, by omega, Gh.pick [9, 10, 0, 1, 2] [2] (by simp -implicitDefEqProofs [F0, d18, w0, hXY, c47, hyl, hzy, hyw, hxs, hG, hFL, hFS, c47']; rfl) (by simp -implicitDefEqProofs [F0, d18, w0, hXY, c47, hyl, hzy, hyw, hxs, hG, hFL, hFS, c47']) (by simp) (by simp) (by simp; rfl) (by simp -implicitDefEqProofs [F0, d18, w0, hXY, c47, hyl, hzy, hyw, hxs, hG, hFL, hFS, c47']) (by simp)⟩
      · have c47' := c47; first | simp only [dT, dF] at c47' | try simp at c47'
        refine WpC.exit ?_
        refine WpC.seq ?_
        have hxl : x = l.length := by simp at c47; omega
        subst hxl
        refine WpC.region ?_
        refine WpO.run tabOk 3 (by simp -implicitDefEqProofs [F0, d18, w0, hXY, c47, FN] <;> first | exact ⟨rfl, rfl⟩ | rfl) ?_
        refine WpO.data (by simp) rfl (by simp -implicitDefEqProofs [F0, d18, w0, hXY, c47, FN] <;> rfl) (by simp -implicitDefEqProofs [F0, d18, w0, hXY, c47, FN] <;> rfl) (by simp -implicitDefEqProofs [F0, d18, w0, hXY, c47, FN] <;> rfl) call_11 (by simp) (v1) (by rfl) (by simp -implicitDefEqProofs [F0, d18, w0, hXY, c47, FN] <;> rfl) ?_
        refine WpO.run tabOk 5 (by simp -implicitDefEqProofs [F0, d18, w0, hXY, c47, FN] <;> first | exact ⟨rfl, rfl⟩ | rfl) ?_
        refine WpO.nil ?_
        refine WpC.seq ?_
        refine WpC.region ?_
        refine WpO.run tabOk 3 (by simp -implicitDefEqProofs [F0, d18, w0, hXY, c47, FN] <;> first | exact ⟨rfl, rfl⟩ | rfl) ?_
        refine WpO.gh (Gh.frz [0]) ?_
        refine WpO.data (by simp) rfl (by simp -implicitDefEqProofs [F0, d18, w0, hXY, c47, FN] <;> rfl) (by simp -implicitDefEqProofs [F0, d18, w0, hXY, c47, FN] <;> rfl) (by simp -implicitDefEqProofs [F0, d18, w0, hXY, c47, FN] <;> rfl) call_11 (by simp) ( v2) (by rfl) (by simp -implicitDefEqProofs [F0, d18, w0, hXY, c47, FN] <;> rfl) ?_
        refine WpO.run tabOk 5 (by simp -implicitDefEqProofs [F0, d18, w0, hXY, c47, FN] <;> first | exact ⟨rfl, rfl⟩ | rfl) ?_
        refine WpO.nil ?_
        refine WpC.seq ?_
        refine WpC.seq ?_
        refine WpC.val 91 (.d (.bool (false))) ?_ ?_
        · refine WpC.region ?_
          refine WpO.run tabOk 4 (by simp -implicitDefEqProofs [F0, d18, w0, hXY, c47, FN] <;> first | exact ⟨rfl, rfl⟩ | rfl) ?_
          refine WpO.splitB 74 (by simp -implicitDefEqProofs [F0, d18, w0, hXY, c47, FN] <;> rfl) (by rfl) (fun g74 => ?_) (fun g74 => ?_)
          · try (exfalso; revert g74; simp; done)
            all_goals
              have g74' := g74; first | simp only [dT, dF] at g74' | try simp at g74'
              refine WpO.run tabOk 17 (by simp -implicitDefEqProofs [F0, d18, w0, hXY, c47, FN, g74] <;> first | exact ⟨rfl, rfl⟩ | rfl) ?_
              refine WpO.nil ?_
              refine ⟨rfl, Gh.only 91 22 ?_ (by first | rfl | simp -implicitDefEqProofs [F0, d18, w0, hXY, c47, FN, g74]) (by rfl)⟩
              simp -implicitDefEqProofs [F0, d18, w0, hXY, c47, FN, g74, g74']
          · try (exfalso; revert g74; simp; done)
            all_goals
              have g74' := g74; first | simp only [dT, dF] at g74' | try simp at g74'
              refine WpO.run tabOk 7 (by simp -implicitDefEqProofs [F0, d18, w0, hXY, c47, FN, g74] <;> first | exact ⟨rfl, rfl⟩ | rfl) ?_
              refine WpO.splitB 81 (by simp -implicitDefEqProofs [F0, d18, w0, hXY, c47, FN, g74] <;> rfl) (by rfl) (fun g81 => ?_) (fun g81 => ?_)
              · try (exfalso; revert g81; simp; done)
                all_goals
                  have g81' := g81; first | simp only [dT, dF] at g81' | try simp at g81'
                  refine WpO.run tabOk 10 (by simp -implicitDefEqProofs [F0, d18, w0, hXY, c47, FN, g74, g81] <;> first | exact ⟨rfl, rfl⟩ | rfl) ?_
                  refine WpO.nil ?_
                  refine ⟨rfl, Gh.only 91 23 ?_ (by first | rfl | simp -implicitDefEqProofs [F0, d18, w0, hXY, c47, FN, g74, g81]) (by rfl)⟩
                  simp -implicitDefEqProofs [F0, d18, w0, hXY, c47, FN, g74, g81, g74', g81']
              · try (exfalso; revert g81; simp; done)
                all_goals
                  have g81' := g81; first | simp only [dT, dF] at g81' | try simp at g81'
                  refine WpO.run tabOk 3 (by simp -implicitDefEqProofs [F0, d18, w0, hXY, c47, FN, g74, g81] <;> first | exact ⟨rfl, rfl⟩ | rfl) ?_
                  refine WpO.splitB 84 (by simp -implicitDefEqProofs [F0, d18, w0, hXY, c47, FN, g74, g81] <;> rfl) (by rfl) (fun g84 => ?_) (fun g84 => ?_)
                  · try (exfalso; revert g84; simp; done)
                    all_goals
                      have g84' := g84; first | simp only [dT, dF] at g84' | try simp at g84'
                      have hYl2 : Y.length = l.length := hXY ▸ hXl (by simpa using g84)
                      refine WpO.run tabOk 7 (by simp -implicitDefEqProofs [F0, d18, w0, hXY, c47, FN, g74, g81, g84, hYl2] <;> first | exact ⟨rfl, rfl⟩ | rfl) ?_
                      refine WpO.nil ?_
                      refine ⟨rfl, Gh.only 91 24 ?_ (by first | rfl | simp -implicitDefEqProofs [F0, d18, w0, hXY, c47, FN, g74, g81, g84, hYl2]) (by rfl)⟩
                      simp -implicitDefEqProofs [F0, d18, w0, hXY, c47, FN, g74, g81, g84, hYl2, g74', g81', g84']
                  · try (exfalso; revert g84; simp; done)
                    all_goals
                      have g84' := g84; first | simp only [dT, dF] at g84' | try simp at g84'
                      refine WpO.run tabOk 7 (by simp -implicitDefEqProofs [F0, d18, w0, hXY, c47, FN, g74, g81, g84] <;> first | exact ⟨rfl, rfl⟩ | rfl) ?_
                      refine WpO.nil ?_
                      refine ⟨rfl, Gh.only 91 24 ?_ (by first | rfl | simp -implicitDefEqProofs [F0, d18, w0, hXY, c47, FN, g74, g81, g84]) (by rfl)⟩
                      simp -implicitDefEqProofs [F0, d18, w0, hXY, c47, FN, g74, g81, g84, g74', g81', g84']
        refine WpC.condF (by simp -implicitDefEqProofs [F0, d18, w0, hXY, c47, FN] <;> rfl) ?_
        refine WpC.skip ?_
        refine WpC.seq ?_
        refine WpC.seq (WpC.ops tabOk (r := []) (by simp -implicitDefEqProofs [F0, d18, w0, hXY, c47, FN] <;> rfl) rfl ?_)
        refine WpC.block ?_
        refine WpC.loopK [11, 13, 93] [94] (X.length) (() : Unit) (fun k _ => [(94, .d (.int .i64 k))]) (fun k _ => []) (fun k _ => True) (by simp -implicitDefEqProofs [F0, d18, w0, hXY, c47, FN] <;> rfl) (Gh.cut' [94, 11, 13, 93] 0 (by simp -implicitDefEqProofs [F0, d18, w0, hXY, c47, FN]) (by simp -implicitDefEqProofs [F0, d18, w0, hXY, c47, FN]) rfl (by simp) (by simp) (by simp)) (by simp) ?_
        rintro k ⟨⟩ hk hi
        simp only [List.cons_append, List.nil_append]
        refine WpC.seq (WpC.ops tabOk (r := []) (by simp -implicitDefEqProofs [F0, d18, w0, hXY, c47, FN] <;> rfl) rfl ?_)
        refine WpC.seq (WpC.condD (k < X.length) (by simp -implicitDefEqProofs [F0, d18, w0, hXY, c47, FN] <;> omega) (fun hlt => ?_) (fun hge => ?_))
        · refine WpC.skip ?_
          have he0 : e = 0 := by
            by_cases h0 : e = 0
            · exact h0
            · rw [n1 h0] at hlt; simp at hlt
          obtain ⟨l1, i1⟩ := f1 he0
          obtain ⟨l2, i2⟩ := f2 he0
          obtain ⟨q1, _⟩ := g1 he0
          obtain ⟨q2, _⟩ := g2 he0
          have hkn : k < l.length := by omega
          have hr := out_rev q1 q2 hun hkn
          obtain ⟨y, hy⟩ : ∃ y, l.length - 1 - k = y := ⟨_, rfl⟩
          have hyY : y < Y.length := by omega
          rw [hy] at hr
          rw [← i1 k hlt, ← i2 y hyY] at hr
          obtain ⟨x, hx⟩ : ∃ x, X[k] = x := ⟨_, rfl⟩
          rw [hx] at hr
          have w2 : IntKind.i64.wrap ((Y.length : Int) - 1) = (Y.length : Int) - 1 := wrapI (by omega) (by omega)
          have w3 : IntKind.i64.wrap ((Y.length : Int) - 1 - k) = y := by rw [wrapI (by omega) (by omega)]; omega
          have hkw : IntKind.i64.wrap ((k : Int) + 1) = k + 1 := wrapI (by omega) (by omega)
          have hr' := hr.symm
          have hkY : k < Y.length := by omega
          refine WpC.seq ?_
          refine WpC.block ?_
          refine WpC.seq (WpC.ops tabOk (r := []) (by simp -implicitDefEqProofs [F0, d18, w0, hXY, c47, FN, hlt, hx, hkY, hyY, hr', w2, w3, hkw] <;> rfl) rfl ?_)
          refine WpC.seq (WpC.drawn tabOk (by kernel_rfl) 0 (by simp) ?_)
          refine DrO.run (fz := []) 3 (by simp -implicitDefEqProofs [F0, d18, w0, hXY, c47, FN, hlt, hx, hkY, hyY, hr', w2, w3, hkw] <;> first | exact ⟨rfl, rfl, rfl, rfl⟩ | rfl) ?_
          refine DrO.run (fz := []) 3 (by simp -implicitDefEqProofs [F0, d18, w0, hXY, c47, FN, hlt, hx, hkY, hyY, hr', w2, w3, hkw] <;> first | exact ⟨rfl, rfl, rfl, rfl⟩ | rfl) ?_
          refine DrO.run (fz := []) 3 (by simp -implicitDefEqProofs [F0, d18, w0, hXY, c47, FN, hlt, hx, hkY, hyY, hr', w2, w3, hkw] <;> first | exact ⟨rfl, rfl, rfl, rfl⟩ | rfl) ?_
          refine DrO.run (fz := []) 3 (by simp -implicitDefEqProofs [F0, d18, w0, hXY, c47, FN, hlt, hx, hkY, hyY, hr', w2, w3, hkw] <;> first | exact ⟨rfl, rfl, rfl, rfl⟩ | rfl) ?_
          refine DrO.run (fz := []) 1 (by simp -implicitDefEqProofs [F0, d18, w0, hXY, c47, FN, hlt, hx, hkY, hyY, hr', w2, w3, hkw] <;> first | exact ⟨rfl, rfl, rfl, rfl⟩ | rfl) ?_
          refine DrO.nil ⟨by kernel_rfl, ?_⟩
          refine WpC.condF (by simp -implicitDefEqProofs [F0, d18, w0, hXY, c47, FN, hlt, hx, hkY, hyY, hr', w2, w3, hkw] <;> rfl) ?_
          refine WpC.skip ?_
          refine WpC.ops tabOk (r := []) (by simp -implicitDefEqProofs [F0, d18, w0, hXY, c47, FN, hlt, hx, hkY, hyY, hr', w2, w3, hkw] <;> rfl) rfl ?_
          exact ⟨hlt, (), trivial, Gh.cut' [94, 11, 13, 93] 0 (by simp -implicitDefEqProofs [F0, d18, w0, hXY, c47, FN, hlt, hx, hkY, hyY, hr', w2, w3, hkw, c47']) (by simp) rfl (by simp) (by simp) (by simp)⟩
        · refine WpC.exit ?_
          have hkn : k = X.length := by omega
          subst hkn
          refine WpC.seq ?_
          refine WpC.region ?_
          refine WpO.data (by simp) rfl (by simp -implicitDefEqProofs [F0, d18, w0, hXY, c47, FN] <;> rfl) (by simp -implicitDefEqProofs [F0, d18, w0, hXY, c47, FN] <;> rfl) (by simp -implicitDefEqProofs [F0, d18, w0, hXY, c47, FN] <;> rfl) call_10 (by simp) (awake15_ok) (by rfl) (by simp -implicitDefEqProofs [F0, d18, w0, hXY, c47, FN] <;> rfl) ?_
          refine WpO.run tabOk 1 (by simp -implicitDefEqProofs [F0, d18, w0, hXY, c47, FN] <;> first | exact ⟨rfl, rfl⟩ | rfl) ?_
          refine WpO.nil ?_
          refine WpC.ret ?_
          try simp only [blockQ, seqQ]
          refine retD_i (by simp -implicitDefEqProofs [F0, d18, w0, hXY, c47, FN] <;> rfl) (by simp -implicitDefEqProofs [F0, d18, w0, hXY, c47, FN] <;> rfl) ?_
          simp -implicitDefEqProofs [F0, d18, w0, hXY, c47, FN]
section
variable {w : World}
theorem garnishFirst_row {e0 e1 e2 : List D} {v0 v1 v2 : Value} {i0 i1 i2 : TI} (y0 : HasT tab 8 3 e0) (y1 : HasT tab 8 3 e1) (y2 : HasT tab 8 22 e2) (t0 : some i0 = tab 3) (t1 : some i1 = tab 3) (t2 : some i2 = tab 22)
    (z0 : DRel w (lt w) (elemD i0 e0) v0) (z1 : DRel w (lt w) (elemD i1 e1) v1) (z2 : DRel w (lt w) (elemD i2 e2) v2) :
    Calls Try.prog 9 #[v0, v1, v2] w fun e w' => e = .returned (.bool true) ∧ Below w.heap.size w w' := by
  rw [tab_3] at t0 t1; cases t0; cases t1
  rw [tab_22] at t2; cases t2
  obtain ⟨n, rfl, hn⟩ := has_num y0 tab_3
  obtain ⟨m, rfl, hm⟩ := has_num y1 tab_3
  obtain ⟨l, ho, hl, rfl⟩ := has_ords y2
  refine WpF.law (garnishFirst_ok n m l (by simpa [maxLen] using hl) ho) (fun r S h => h.1) (vs := [v0, v1, v2]) ?_
  simp only [VRelL, VRel]
  exact ⟨v0, _, rfl, z0, v1, _, rfl, z1, v2, _, rfl, z2, rfl⟩
end
end Go.Proofs.Ytaobnhenjldjeaa.Pay
