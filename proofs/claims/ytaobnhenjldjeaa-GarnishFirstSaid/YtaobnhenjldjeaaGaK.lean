/- Law GarnishMore. No statement of the seed is proved here. -/
import Derived.Test.YtaobnhenjldjeaaGaJ
namespace Go.Proofs.Ytaobnhenjldjeaa.Pay
open Go Go.RowKit
set_option linter.unusedVariables false
set_option linter.unusedSimpArgs false
set_option linter.unusedSectionVars false

/-- No two have one priority, so far. -/
def unlike (l : List Ord) (k : Nat) : Prop := ∀ i j, j < i → i < k → priF l i ≠ priF l j
theorem unlike_sep {l : List Ord} (h : unlike l l.length) {i : Nat} (hi : i < l.length) : ∀ j, j < l.length → j ≠ i → priF l j ≠ priF l i := fun j hj hne => by
  rcases Nat.lt_or_ge j i with h1 | h1
  · exact (h i j h1 hi).symm
  · exact h j i (by omega) hj

set_option maxHeartbeats 40000000 in
theorem garnishMore_ok (net prot more : Int) (l : List Ord) (hn64 : in64 net) (hp64 : in64 prot) (hm64 : in64 more) (hl : l.length ≤ 9223372036854775807) (ho : ∀ o ∈ l, o.ok) : Gives Try.prog 6 [.d (dI net), .d (dI prot), .d (dI more), .d (encOs l)] (.d (.bool true)) := by
  refine Gives.enter tabOk Try.func6 rfl (by show 4 ≤ 143; decide) ?_
  simp only [Try.f6]
  refine WpC.seq (WpC.ops tabOk (r := []) (by simp -implicitDefEqProofs <;> rfl) rfl ?_)
  refine WpC.seq ?_
  refine WpC.seq ?_
  refine WpC.val 36 (.d (.bool (decide (((((8 : Int) < l.length ∨ more < 0) ∨ 1099511627776 < more) ∨ 562949953421312 < net) ∨ 562949953421312 < prot)))) ?_ ?_
  · refine WpC.region ?_
    refine WpO.run tabOk 4 (by simp -implicitDefEqProofs <;> first | exact ⟨rfl, rfl⟩ | rfl) ?_
    refine WpO.splitB 21 (by simp -implicitDefEqProofs <;> rfl) (by rfl) (fun g21 => ?_) (fun g21 => ?_)
    · have g21' := g21; first | simp only [dT, dF] at g21' | try simp at g21'
      refine WpO.run tabOk 15 (by simp -implicitDefEqProofs [g21] <;> first | exact ⟨rfl, rfl⟩ | rfl) ?_
      refine WpO.nil ?_
      refine ⟨rfl, Gh.only 36 20 ?_ (by first | rfl | simp -implicitDefEqProofs [g21]) (by rfl)⟩
      simp -implicitDefEqProofs [g21, g21']
    · have g21' := g21; first | simp only [dT, dF] at g21' | try simp at g21'
      refine WpO.run tabOk 4 (by simp -implicitDefEqProofs [g21] <;> first | exact ⟨rfl, rfl⟩ | rfl) ?_
      refine WpO.splitB 25 (by simp -implicitDefEqProofs [g21] <;> rfl) (by rfl) (fun g25 => ?_) (fun g25 => ?_)
      · have g25' := g25; first | simp only [dT, dF] at g25' | try simp at g25'
        refine WpO.run tabOk 11 (by simp -implicitDefEqProofs [g21, g25] <;> first | exact ⟨rfl, rfl⟩ | rfl) ?_
        refine WpO.nil ?_
        refine ⟨rfl, Gh.only 36 21 ?_ (by first | rfl | simp -implicitDefEqProofs [g21, g25]) (by rfl)⟩
        simp -implicitDefEqProofs [g21, g25, g21', g25']
      · have g25' := g25; first | simp only [dT, dF] at g25' | try simp at g25'
        refine WpO.run tabOk 4 (by simp -implicitDefEqProofs [g21, g25] <;> first | exact ⟨rfl, rfl⟩ | rfl) ?_
        refine WpO.splitB 29 (by simp -implicitDefEqProofs [g21, g25] <;> rfl) (by rfl) (fun g29 => ?_) (fun g29 => ?_)
        · have g29' := g29; first | simp only [dT, dF] at g29' | try simp at g29'
          refine WpO.run tabOk 7 (by simp -implicitDefEqProofs [g21, g25, g29] <;> first | exact ⟨rfl, rfl⟩ | rfl) ?_
          refine WpO.nil ?_
          refine ⟨rfl, Gh.only 36 22 ?_ (by first | rfl | simp -implicitDefEqProofs [g21, g25, g29]) (by rfl)⟩
          simp -implicitDefEqProofs [g21, g25, g29, g21', g25', g29']
        · have g29' := g29; first | simp only [dT, dF] at g29' | try simp at g29'
          refine WpO.run tabOk 4 (by simp -implicitDefEqProofs [g21, g25, g29] <;> first | exact ⟨rfl, rfl⟩ | rfl) ?_
          refine WpO.splitB 33 (by simp -implicitDefEqProofs [g21, g25, g29] <;> rfl) (by rfl) (fun g33 => ?_) (fun g33 => ?_)
          · have g33' := g33; first | simp only [dT, dF] at g33' | try simp at g33'
            refine WpO.run tabOk 3 (by simp -implicitDefEqProofs [g21, g25, g29, g33] <;> first | exact ⟨rfl, rfl⟩ | rfl) ?_
            refine WpO.nil ?_
            refine ⟨rfl, Gh.only 36 23 ?_ (by first | rfl | simp -implicitDefEqProofs [g21, g25, g29, g33]) (by rfl)⟩
            simp -implicitDefEqProofs [g21, g25, g29, g33, g21', g25', g29', g33']
          · have g33' := g33; first | simp only [dT, dF] at g33' | try simp at g33'
            refine WpO.run tabOk 3 (by simp -implicitDefEqProofs [g21, g25, g29, g33] <;> first | exact ⟨rfl, rfl⟩ | rfl) ?_
            refine WpO.nil ?_
            refine ⟨rfl, Gh.only 36 23 ?_ (by first | rfl | simp -implicitDefEqProofs [g21, g25, g29, g33]) (by rfl)⟩
            simp -implicitDefEqProofs [g21, g25, g29, g33, g21', g25', g29', g33']
  refine WpC.condD (((((8 : Int) < l.length ∨ more < 0) ∨ 1099511627776 < more) ∨ 562949953421312 < net) ∨ 562949953421312 < prot) (by simp -implicitDefEqProofs) (fun d36 => ?_) (fun d36 => ?_)
  · refine WpC.seq ?_
    refine WpC.region ?_
    refine WpO.data (by simp) rfl (by simp -implicitDefEqProofs [d36] <;> rfl) (by simp -implicitDefEqProofs [d36] <;> rfl) (by simp -implicitDefEqProofs [d36] <;> rfl) call_10 (by simp) (awake15_ok) (by rfl) (by simp -implicitDefEqProofs [d36] <;> rfl) ?_
    refine WpO.run tabOk 1 (by simp -implicitDefEqProofs [d36] <;> first | exact ⟨rfl, rfl⟩ | rfl) ?_
    refine WpO.nil ?_
    refine WpC.ret ?_
    try simp only [blockQ, seqQ]
    refine retD_i (by simp -implicitDefEqProofs [d36] <;> rfl) (by simp -implicitDefEqProofs [d36] <;> rfl) ?_
    simp -implicitDefEqProofs [d36]
  · have hl8 : l.length ≤ 8 := by omega
    have hmo : 0 ≤ more ∧ more ≤ 1099511627776 := by omega
    have hne : net ≤ 562949953421312 := by omega
    have hpr : prot ≤ 562949953421312 := by omega
    unfold in64 at hn64 hp64
    have w1 : IntKind.i64.wrap (net + more) = net + more := wrapI (by omega) (by omega)
    have w2 : IntKind.i64.wrap (prot + more) = prot + more := wrapI (by omega) (by omega)
    have v1 := serveL_ok net prot l (by omega)
    have v2 := serveL_ok (net + more) prot l (by omega)
    have v3 := serveL_ok net (prot + more) l (by omega)
    have f1 := fun h => outI_facts (net := net) (prot := prot) (l := l) h
    have f2 := fun h => outI_facts (net := net + more) (prot := prot) (l := l) h
    have f3 := fun h => outI_facts (net := net) (prot := prot + more) (l := l) h
    have g1 := fun h => chk_good (net := net) (prot := prot) (l := l) h
    have g2 := fun h => chk_good (net := net + more) (prot := prot) (l := l) h
    have g3 := fun h => chk_good (net := net) (prot := prot + more) (l := l) h
    obtain ⟨e, he⟩ : ∃ e, chkE net prot l = e := ⟨_, rfl⟩
    obtain ⟨e2, he2⟩ : ∃ e, chkE (net + more) prot l = e := ⟨_, rfl⟩
    obtain ⟨e3, he3⟩ : ∃ e, chkE net (prot + more) l = e := ⟨_, rfl⟩
    obtain ⟨X, hX⟩ : ∃ K, outI net prot l = K := ⟨_, rfl⟩
    obtain ⟨Y, hY⟩ : ∃ K, outI (net + more) prot l = K := ⟨_, rfl⟩
    obtain ⟨Z, hZ⟩ : ∃ K, outI net (prot + more) l = K := ⟨_, rfl⟩
    rw [hX, he] at v1 f1
    rw [hY, he2] at v2 f2
    rw [hZ, he3] at v3 f3
    rw [he] at g1
    rw [he2] at g2
    rw [he3] at g3
    have hu0 : unlike l 0 := fun i j h1 h2 => by omega
    refine WpC.skip ?_
    refine WpC.seq ?_
    refine WpC.seq (WpC.ops tabOk (r := []) (by simp -implicitDefEqProofs [d36, w1, w2] <;> rfl) rfl ?_)
    refine WpC.block ?_
    refine WpC.loopK [0, 1, 2, 3, 39] [40] (l.length) (() : Unit) (fun k _ => [(40, .d (.int .i64 k))]) (fun k _ => []) (fun k _ => unlike l k) (by simp -implicitDefEqProofs [d36, w1, w2] <;> rfl) (Gh.cut' [40, 0, 1, 2, 3, 39] 0 (by simp -implicitDefEqProofs [d36, w1, w2]) (by simp -implicitDefEqProofs [d36, w1, w2]) rfl (by simp) (by simp) (by simp)) (hu0) ?_
    rintro k ⟨⟩ hk hi
    simp only [List.cons_append, List.nil_append]
    refine WpC.seq (WpC.ops tabOk (r := []) (by simp -implicitDefEqProofs [d36, w1, w2] <;> rfl) rfl ?_)
    refine WpC.seq (WpC.condD (k < l.length) (by simp -implicitDefEqProofs [d36, w1, w2] <;> omega) (fun hlt => ?_) (fun hge => ?_))
    · refine WpC.skip ?_
      refine WpC.seq ?_
      refine WpC.block ?_
      refine WpC.seq (WpC.ops tabOk (r := []) (by simp -implicitDefEqProofs [d36, w1, w2, hlt] <;> rfl) rfl ?_)
      obtain ⟨i, rfl⟩ : ∃ i, i = k := ⟨k, rfl⟩
      have hiN : i < l.length := hlt
      obtain ⟨x, hx⟩ : ∃ x, l[i] = x := ⟨_, rfl⟩
      have hiu : unlike l i := hi
      have hiw : IntKind.i64.wrap ((i : Int) + 1) = (i : Int) + 1 := wrapI (by omega) (by omega)
      refine WpC.seq (WpC.ops tabOk (r := []) (by simp -implicitDefEqProofs [d36, w1, w2, hlt, hiN, hx, hiw] <;> rfl) rfl ?_)
      refine WpC.block ?_
      refine WpC.loopK [0, 1, 2, 3, 9, 39, 40, 43] [44] (i) (() : Unit) (fun k _ => [(44, .d (.int .i64 k))]) (fun k _ => []) (fun k _ => ∀ j, j < k → priF l i ≠ priF l j) (by simp -implicitDefEqProofs [d36, w1, w2, hlt, hiN, hx, hiw] <;> rfl) (Gh.cut' [44, 0, 1, 2, 3, 9, 39, 40, 43] 0 (by simp -implicitDefEqProofs [d36, w1, w2, hlt, hiN, hx, hiw]) (by simp -implicitDefEqProofs [d36, w1, w2, hlt, hiN, hx, hiw]) rfl (by simp) (by simp) (by simp)) (fun j h => by omega) ?_
      rintro k ⟨⟩ hk hi
      simp only [List.cons_append, List.nil_append]
      refine WpC.seq (WpC.ops tabOk (r := []) (by simp -implicitDefEqProofs [d36, w1, w2, hlt, hiN, hx, hiw] <;> rfl) rfl ?_)
      refine WpC.seq (WpC.condD (k < i) (by simp -implicitDefEqProofs [d36, w1, w2, hlt, hiN, hx, hiw] <;> omega) (fun hlt => ?_) (fun hge => ?_))
      · refine WpC.skip ?_
        have hkl : k < l.length := by omega
        obtain ⟨z, hz⟩ : ∃ x, l[k] = x := ⟨_, rfl⟩
        have hkw : IntKind.i64.wrap ((k : Int) + 1) = k + 1 := wrapI (by omega) (by omega)
        have hPk := priF_at hkl
        have hPi := priF_at hiN
        rw [hz] at hPk
        rw [hx] at hPi
        refine WpC.seq ?_
        refine WpC.block ?_
        refine WpC.seq (WpC.ops tabOk (r := []) (by simp -implicitDefEqProofs [d36, w1, w2, hlt, hiN, hx, hiw, hlt, hkl, hz, hkw] <;> rfl) rfl ?_)
        refine WpC.seq (WpC.drawn tabOk (by kernel_rfl) 0 (by simp) ?_)
        refine DrO.run (fz := []) 3 (by simp -implicitDefEqProofs [d36, w1, w2, hlt, hiN, hx, hiw, hlt, hkl, hz, hkw] <;> first | exact ⟨rfl, rfl, rfl, rfl⟩ | rfl) ?_
        refine DrO.run (fz := []) 3 (by simp -implicitDefEqProofs [d36, w1, w2, hlt, hiN, hx, hiw, hlt, hkl, hz, hkw] <;> first | exact ⟨rfl, rfl, rfl, rfl⟩ | rfl) ?_
        refine DrO.run (fz := []) 3 (by simp -implicitDefEqProofs [d36, w1, w2, hlt, hiN, hx, hiw, hlt, hkl, hz, hkw] <;> first | exact ⟨rfl, rfl, rfl, rfl⟩ | rfl) ?_
        refine DrO.run (fz := []) 2 (by simp -implicitDefEqProofs [d36, w1, w2, hlt, hiN, hx, hiw, hlt, hkl, hz, hkw] <;> first | exact ⟨rfl, rfl, rfl, rfl⟩ | rfl) ?_
        refine DrO.nil ⟨by kernel_rfl, ?_⟩
        refine WpC.condD (x.pri = z.pri) (by simp -implicitDefEqProofs [d36, w1, w2, hlt, hiN, hx, hiw, hlt, hkl, hz, hkw]) (fun d57 => ?_) (fun d57 => ?_)
        · refine WpC.seq ?_
          refine WpC.region ?_
          refine WpO.data (by simp) rfl (by simp -implicitDefEqProofs [d36, w1, w2, hlt, hiN, hx, hiw, hlt, hkl, hz, hkw, d57] <;> rfl) (by simp -implicitDefEqProofs [d36, w1, w2, hlt, hiN, hx, hiw, hlt, hkl, hz, hkw, d57] <;> rfl) (by simp -implicitDefEqProofs [d36, w1, w2, hlt, hiN, hx, hiw, hlt, hkl, hz, hkw, d57] <;> rfl) call_10 (by simp) (awake15_ok) (by rfl) (by simp -implicitDefEqProofs [d36, w1, w2, hlt, hiN, hx, hiw, hlt, hkl, hz, hkw, d57] <;> rfl) ?_
          refine WpO.run tabOk 1 (by simp -implicitDefEqProofs [d36, w1, w2, hlt, hiN, hx, hiw, hlt, hkl, hz, hkw, d57] <;> first | exact ⟨rfl, rfl⟩ | rfl) ?_
          refine WpO.nil ?_
          refine WpC.ret ?_
          try simp only [blockQ, seqQ]
          refine retD_i (by simp -implicitDefEqProofs [d36, w1, w2, hlt, hiN, hx, hiw, hlt, hkl, hz, hkw, d57] <;> rfl) (by simp -implicitDefEqProofs [d36, w1, w2, hlt, hiN, hx, hiw, hlt, hkl, hz, hkw, d57] <;> rfl) ?_
          simp -implicitDefEqProofs [d36, w1, w2, hlt, hiN, hx, hiw, hlt, hkl, hz, hkw, d57]
        · refine WpC.skip ?_
          refine WpC.ops tabOk (r := []) (by simp -implicitDefEqProofs [d36, w1, w2, hlt, hiN, hx, hiw, hlt, hkl, hz, hkw, d57] <;> rfl) rfl ?_
          exact ⟨hlt, (), fun j hj => by rcases Nat.lt_or_ge j k with q | q; exact hi j q; rw [show j = k by omega, hPi, hPk]; exact d57, Gh.cut' [44, 0, 1, 2, 3, 9, 39, 40, 43] 0 (by simp -implicitDefEqProofs [d36, w1, w2, hlt, hiN, hx, hiw, hlt, hkl, hz, hkw, d57]) (by simp) rfl (by simp) (by simp) (by simp)⟩
      · refine WpC.exit ?_
        have hkn : i = k := by omega
        subst hkn
        have hun : unlike l (i + 1) := fun a b h1 h2 => by
          rcases Nat.lt_or_ge a i with q | q
          · exact hiu a b h1 q
          · rw [show a = i by omega]; exact hi b (by omega)
        refine WpC.ops tabOk (r := []) (by simp -implicitDefEqProofs [d36, w1, w2, hlt, hiN, hx, hiw] <;> rfl) rfl ?_
        exact ⟨hlt, (), hun, Gh.cut' [40, 0, 1, 2, 3, 39] 0 (by simp -implicitDefEqProofs [d36, w1, w2, hlt, hiN, hx, hiw]) (by simp) rfl (by simp) (by simp) (by simp)⟩
    · refine WpC.exit ?_
      have hkn : k = l.length := by omega
      subst hkn
      refine WpC.seq ?_
      have hun : unlike l l.length := hi
      refine WpC.region ?_
      refine WpO.run tabOk 3 (by simp -implicitDefEqProofs [d36, w1, w2] <;> first | exact ⟨rfl, rfl⟩ | rfl) ?_
      refine WpO.data (by simp) rfl (by simp -implicitDefEqProofs [d36, w1, w2] <;> rfl) (by simp -implicitDefEqProofs [d36, w1, w2] <;> rfl) (by simp -implicitDefEqProofs [d36, w1, w2] <;> rfl) call_11 (by simp) (v1) (by rfl) (by simp -implicitDefEqProofs [d36, w1, w2] <;> rfl) ?_
      refine WpO.run tabOk 5 (by simp -implicitDefEqProofs [d36, w1, w2] <;> first | exact ⟨rfl, rfl⟩ | rfl) ?_
      refine WpO.nil ?_
      refine WpC.seq ?_
      refine WpC.region ?_
      refine WpO.run tabOk 5 (by simp -implicitDefEqProofs [d36, w1, w2] <;> first | exact ⟨rfl, rfl⟩ | rfl) ?_
      refine WpO.data (by simp) rfl (by simp -implicitDefEqProofs [d36, w1, w2] <;> rfl) (by simp -implicitDefEqProofs [d36, w1, w2] <;> rfl) (by simp -implicitDefEqProofs [d36, w1, w2] <;> rfl) call_11 (by simp) (v2) (by rfl) (by simp -implicitDefEqProofs [d36, w1, w2] <;> rfl) ?_
      refine WpO.run tabOk 5 (by simp -implicitDefEqProofs [d36, w1, w2] <;> first | exact ⟨rfl, rfl⟩ | rfl) ?_
      refine WpO.nil ?_
      refine WpC.seq ?_
      refine WpC.region ?_
      refine WpO.run tabOk 5 (by simp -implicitDefEqProofs [d36, w1, w2] <;> first | exact ⟨rfl, rfl⟩ | rfl) ?_
      refine WpO.data (by simp) rfl (by simp -implicitDefEqProofs [d36, w1, w2] <;> rfl) (by simp -implicitDefEqProofs [d36, w1, w2] <;> rfl) (by simp -implicitDefEqProofs [d36, w1, w2] <;> rfl) call_11 (by simp) (v3) (by rfl) (by simp -implicitDefEqProofs [d36, w1, w2] <;> rfl) ?_
      refine WpO.run tabOk 5 (by simp -implicitDefEqProofs [d36, w1, w2] <;> first | exact ⟨rfl, rfl⟩ | rfl) ?_
      refine WpO.nil ?_
      refine WpC.seq ?_
      refine WpC.seq ?_
      refine WpC.val 95 (.d (.bool (decide ((e ≠ 0 ∨ e2 ≠ 0) ∨ e3 ≠ 0)))) ?_ ?_
      · refine WpC.region ?_
        refine WpO.run tabOk 3 (by simp -implicitDefEqProofs [d36, w1, w2] <;> first | exact ⟨rfl, rfl⟩ | rfl) ?_
        refine WpO.splitB 88 (by simp -implicitDefEqProofs [d36, w1, w2] <;> rfl) (by rfl) (fun g88 => ?_) (fun g88 => ?_)
        · have g88' := g88; first | simp only [dT, dF] at g88' | try simp at g88'
          refine WpO.run tabOk 7 (by simp -implicitDefEqProofs [d36, w1, w2, g88] <;> first | exact ⟨rfl, rfl⟩ | rfl) ?_
          refine WpO.nil ?_
          refine ⟨rfl, Gh.only 95 11 ?_ (by first | rfl | simp -implicitDefEqProofs [d36, w1, w2, g88]) (by rfl)⟩
          simp -implicitDefEqProofs [d36, w1, w2, g88, g88']
        · have g88' := g88; first | simp only [dT, dF] at g88' | try simp at g88'
          refine WpO.run tabOk 4 (by simp -implicitDefEqProofs [d36, w1, w2, g88] <;> first | exact ⟨rfl, rfl⟩ | rfl) ?_
          refine WpO.splitB 92 (by simp -implicitDefEqProofs [d36, w1, w2, g88] <;> rfl) (by rfl) (fun g92 => ?_) (fun g92 => ?_)
          · have g92' := g92; first | simp only [dT, dF] at g92' | try simp at g92'
            refine WpO.run tabOk 3 (by simp -implicitDefEqProofs [d36, w1, w2, g88, g92] <;> first | exact ⟨rfl, rfl⟩ | rfl) ?_
            refine WpO.nil ?_
            refine ⟨rfl, Gh.only 95 12 ?_ (by first | rfl | simp -implicitDefEqProofs [d36, w1, w2, g88, g92]) (by rfl)⟩
            simp -implicitDefEqProofs [d36, w1, w2, g88, g92, g88', g92']
          · have g92' := g92; first | simp only [dT, dF] at g92' | try simp at g92'
            refine WpO.run tabOk 3 (by simp -implicitDefEqProofs [d36, w1, w2, g88, g92] <;> first | exact ⟨rfl, rfl⟩ | rfl) ?_
            refine WpO.nil ?_
            refine ⟨rfl, Gh.only 95 12 ?_ (by first | rfl | simp -implicitDefEqProofs [d36, w1, w2, g88, g92]) (by rfl)⟩
            simp -implicitDefEqProofs [d36, w1, w2, g88, g92, g88', g92']
      refine WpC.condD ((e ≠ 0 ∨ e2 ≠ 0) ∨ e3 ≠ 0) (by simp -implicitDefEqProofs [d36, w1, w2]) (fun d95 => ?_) (fun d95 => ?_)
      · refine WpC.seq ?_
        refine WpC.region ?_
        refine WpO.data (by simp) rfl (by simp -implicitDefEqProofs [d36, w1, w2, d95] <;> rfl) (by simp -implicitDefEqProofs [d36, w1, w2, d95] <;> rfl) (by simp -implicitDefEqProofs [d36, w1, w2, d95] <;> rfl) call_10 (by simp) (awake15_ok) (by rfl) (by simp -implicitDefEqProofs [d36, w1, w2, d95] <;> rfl) ?_
        refine WpO.run tabOk 1 (by simp -implicitDefEqProofs [d36, w1, w2, d95] <;> first | exact ⟨rfl, rfl⟩ | rfl) ?_
        refine WpO.nil ?_
        refine WpC.ret ?_
        try simp only [blockQ, seqQ]
        refine retD_i (by simp -implicitDefEqProofs [d36, w1, w2, d95] <;> rfl) (by simp -implicitDefEqProofs [d36, w1, w2, d95] <;> rfl) ?_
        simp -implicitDefEqProofs [d36, w1, w2, d95]
      · have q1 : e = 0 := by omega
        have q2 : e2 = 0 := by omega
        have q3 : e3 = 0 := by omega
        obtain ⟨l1, i1⟩ := f1 q1
        obtain ⟨l2, i2⟩ := f2 q2
        obtain ⟨l3, i3⟩ := f3 q3
        obtain ⟨g1, _⟩ := g1 q1
        obtain ⟨g2, _⟩ := g2 q2
        obtain ⟨g3, _⟩ := g3 q3
        refine WpC.skip ?_
        refine WpC.seq ?_
        refine WpC.seq ?_
        refine WpC.val 115 (.d (.bool (false))) ?_ ?_
        · refine WpC.region ?_
          refine WpO.run tabOk 6 (by simp -implicitDefEqProofs [d36, w1, w2, d95, l1, l2, l3] <;> first | exact ⟨rfl, rfl⟩ | rfl) ?_
          refine WpO.splitB 102 (by simp -implicitDefEqProofs [d36, w1, w2, d95, l1, l2, l3] <;> rfl) (by rfl) (fun g102 => ?_) (fun g102 => ?_)
          · try (exfalso; revert g102; simp; done)
            all_goals
              have g102' := g102; first | simp only [dT, dF] at g102' | try simp at g102'
              refine WpO.run tabOk 13 (by simp -implicitDefEqProofs [d36, w1, w2, d95, l1, l2, l3, g102] <;> first | exact ⟨rfl, rfl⟩ | rfl) ?_
              refine WpO.nil ?_
              refine ⟨rfl, Gh.only 115 20 ?_ (by first | rfl | simp -implicitDefEqProofs [d36, w1, w2, d95, l1, l2, l3, g102]) (by rfl)⟩
              simp -implicitDefEqProofs [d36, w1, w2, d95, l1, l2, l3, g102, g102']
          · try (exfalso; revert g102; simp; done)
            all_goals
              have g102' := g102; first | simp only [dT, dF] at g102' | try simp at g102'
              refine WpO.run tabOk 7 (by simp -implicitDefEqProofs [d36, w1, w2, d95, l1, l2, l3, g102] <;> first | exact ⟨rfl, rfl⟩ | rfl) ?_
              refine WpO.splitB 109 (by simp -implicitDefEqProofs [d36, w1, w2, d95, l1, l2, l3, g102] <;> rfl) (by rfl) (fun g109 => ?_) (fun g109 => ?_)
              · try (exfalso; revert g109; simp; done)
                all_goals
                  have g109' := g109; first | simp only [dT, dF] at g109' | try simp at g109'
                  refine WpO.run tabOk 6 (by simp -implicitDefEqProofs [d36, w1, w2, d95, l1, l2, l3, g102, g109] <;> first | exact ⟨rfl, rfl⟩ | rfl) ?_
                  refine WpO.nil ?_
                  refine ⟨rfl, Gh.only 115 21 ?_ (by first | rfl | simp -implicitDefEqProofs [d36, w1, w2, d95, l1, l2, l3, g102, g109]) (by rfl)⟩
                  simp -implicitDefEqProofs [d36, w1, w2, d95, l1, l2, l3, g102, g109, g102', g109']
              · try (exfalso; revert g109; simp; done)
                all_goals
                  have g109' := g109; first | simp only [dT, dF] at g109' | try simp at g109'
                  refine WpO.run tabOk 6 (by simp -implicitDefEqProofs [d36, w1, w2, d95, l1, l2, l3, g102, g109] <;> first | exact ⟨rfl, rfl⟩ | rfl) ?_
                  refine WpO.nil ?_
                  refine ⟨rfl, Gh.only 115 21 ?_ (by first | rfl | simp -implicitDefEqProofs [d36, w1, w2, d95, l1, l2, l3, g102, g109]) (by rfl)⟩
                  simp -implicitDefEqProofs [d36, w1, w2, d95, l1, l2, l3, g102, g109, g102', g109']
        refine WpC.condF (by simp -implicitDefEqProofs [d36, w1, w2, d95, l1, l2, l3] <;> rfl) ?_
        refine WpC.skip ?_
        refine WpC.seq ?_
        refine WpC.seq (WpC.ops tabOk (r := []) (by simp -implicitDefEqProofs [d36, w1, w2, d95, l1, l2, l3] <;> rfl) rfl ?_)
        refine WpC.block ?_
        refine WpC.loopK [11, 13, 15, 117] [118] (l.length) (() : Unit) (fun k _ => [(118, .d (.int .i64 k))]) (fun k _ => []) (fun k _ => True) (by simp -implicitDefEqProofs [d36, w1, w2, d95, l1, l2, l3] <;> rfl) (Gh.cut' [118, 11, 13, 15, 117] 0 (by simp -implicitDefEqProofs [d36, w1, w2, d95, l1, l2, l3]) (by simp -implicitDefEqProofs [d36, w1, w2, d95, l1, l2, l3]) rfl (by simp) (by simp) (by simp)) (by simp) ?_
        rintro k ⟨⟩ hk hi
        simp only [List.cons_append, List.nil_append]
        refine WpC.seq (WpC.ops tabOk (r := []) (by simp -implicitDefEqProofs [d36, w1, w2, d95, l1, l2, l3] <;> rfl) rfl ?_)
        refine WpC.seq (WpC.condD (k < l.length) (by simp -implicitDefEqProofs [d36, w1, w2, d95, l1, l2, l3] <;> omega) (fun hlt => ?_) (fun hge => ?_))
        · refine WpC.skip ?_
          have k1 : k < X.length := by omega
          have k2 : k < Y.length := by omega
          have k3 : k < Z.length := by omega
          have m1 := out_more g1 g2 (by unfold at0; split <;> split <;> omega) hlt (unlike_sep hun hlt)
          have m2 := out_more g3 g1 (by unfold at0; split <;> split <;> omega) hlt (unlike_sep hun hlt)
          rw [← i1 k k1, ← i2 k k2] at m1
          rw [← i1 k k1, ← i3 k k3] at m2
          obtain ⟨x, hx⟩ : ∃ x, X[k] = x := ⟨_, rfl⟩
          obtain ⟨y, hy⟩ : ∃ x, Y[k] = x := ⟨_, rfl⟩
          obtain ⟨z, hz⟩ : ∃ x, Z[k] = x := ⟨_, rfl⟩
          rw [hx, hy] at m1
          rw [hx, hz] at m2
          have m3 : ¬ y < x := by omega
          have m4 : ¬ x < z := by omega
          have hkw : IntKind.i64.wrap ((k : Int) + 1) = k + 1 := wrapI (by omega) (by omega)
          refine WpC.seq ?_
          refine WpC.block ?_
          refine WpC.seq (WpC.ops tabOk (r := []) (by simp -implicitDefEqProofs [d36, w1, w2, d95, l1, l2, l3, hlt, k1, k2, k3, hx, hy, hz, m3, m4, hkw] <;> rfl) rfl ?_)
          refine WpC.seq ?_
          refine WpC.val 140 (.d (.bool (false))) ?_ ?_
          · refine WpC.drawn tabOk (by kernel_rfl) 0 (by simp) ?_
            refine DrO.run (fz := []) 3 (by simp -implicitDefEqProofs [d36, w1, w2, d95, l1, l2, l3, hlt, k1, k2, k3, hx, hy, hz, m3, m4, hkw] <;> first | exact ⟨rfl, rfl, rfl, rfl⟩ | rfl) ?_
            refine DrO.run (fz := []) 3 (by simp -implicitDefEqProofs [d36, w1, w2, d95, l1, l2, l3, hlt, k1, k2, k3, hx, hy, hz, m3, m4, hkw] <;> first | exact ⟨rfl, rfl, rfl, rfl⟩ | rfl) ?_
            refine DrO.run (fz := []) 3 (by simp -implicitDefEqProofs [d36, w1, w2, d95, l1, l2, l3, hlt, k1, k2, k3, hx, hy, hz, m3, m4, hkw] <;> first | exact ⟨rfl, rfl, rfl, rfl⟩ | rfl) ?_
            refine DrO.run (fz := []) 1 (by simp -implicitDefEqProofs [d36, w1, w2, d95, l1, l2, l3, hlt, k1, k2, k3, hx, hy, hz, m3, m4, hkw] <;> first | exact ⟨rfl, rfl, rfl, rfl⟩ | rfl) ?_
            refine DrO.splitB 130 (by simp -implicitDefEqProofs [d36, w1, w2, d95, l1, l2, l3, hlt, k1, k2, k3, hx, hy, hz, m3, m4, hkw] <;> rfl) (by rfl) (fun g130 => ?_) (fun g130 => ?_)
            · try (exfalso; revert g130; simp; done)
              all_goals
                have g130' := g130; first | simp only [dT, dF] at g130' | try simp at g130'
                refine DrO.run (fz := []) 3 (by simp -implicitDefEqProofs [d36, w1, w2, d95, l1, l2, l3, hlt, k1, k2, k3, hx, hy, hz, m3, m4, hkw, g130] <;> first | exact ⟨rfl, rfl, rfl, rfl⟩ | rfl) ?_
                refine DrO.run (fz := []) 3 (by simp -implicitDefEqProofs [d36, w1, w2, d95, l1, l2, l3, hlt, k1, k2, k3, hx, hy, hz, m3, m4, hkw, g130] <;> first | exact ⟨rfl, rfl, rfl, rfl⟩ | rfl) ?_
                refine DrO.run (fz := []) 3 (by simp -implicitDefEqProofs [d36, w1, w2, d95, l1, l2, l3, hlt, k1, k2, k3, hx, hy, hz, m3, m4, hkw, g130] <;> first | exact ⟨rfl, rfl, rfl, rfl⟩ | rfl) ?_
                refine DrO.run (fz := []) 1 (by simp -implicitDefEqProofs [d36, w1, w2, d95, l1, l2, l3, hlt, k1, k2, k3, hx, hy, hz, m3, m4, hkw, g130] <;> first | exact ⟨rfl, rfl, rfl, rfl⟩ | rfl) ?_
                refine DrO.nil ⟨by kernel_rfl, ?_⟩
                refine ⟨rfl, Gh.only 140 20 ?_ (by first | rfl | simp -implicitDefEqProofs [d36, w1, w2, d95, l1, l2, l3, hlt, k1, k2, k3, hx, hy, hz, m3, m4, hkw, g130]) (by rfl)⟩
                simp -implicitDefEqProofs [d36, w1, w2, d95, l1, l2, l3, hlt, k1, k2, k3, hx, hy, hz, m3, m4, hkw, g130, g130']
            · try (exfalso; revert g130; simp; done)
              all_goals
                have g130' := g130; first | simp only [dT, dF] at g130' | try simp at g130'
                refine DrO.run (fz := []) 3 (by simp -implicitDefEqProofs [d36, w1, w2, d95, l1, l2, l3, hlt, k1, k2, k3, hx, hy, hz, m3, m4, hkw, g130] <;> first | exact ⟨rfl, rfl, rfl, rfl⟩ | rfl) ?_
                refine DrO.run (fz := []) 3 (by simp -implicitDefEqProofs [d36, w1, w2, d95, l1, l2, l3, hlt, k1, k2, k3, hx, hy, hz, m3, m4, hkw, g130] <;> first | exact ⟨rfl, rfl, rfl, rfl⟩ | rfl) ?_
                refine DrO.run (fz := []) 3 (by simp -implicitDefEqProofs [d36, w1, w2, d95, l1, l2, l3, hlt, k1, k2, k3, hx, hy, hz, m3, m4, hkw, g130] <;> first | exact ⟨rfl, rfl, rfl, rfl⟩ | rfl) ?_
                refine DrO.run (fz := []) 1 (by simp -implicitDefEqProofs [d36, w1, w2, d95, l1, l2, l3, hlt, k1, k2, k3, hx, hy, hz, m3, m4, hkw, g130] <;> first | exact ⟨rfl, rfl, rfl, rfl⟩ | rfl) ?_
                refine DrO.nil ⟨by kernel_rfl, ?_⟩
                refine ⟨rfl, Gh.only 140 20 ?_ (by first | rfl | simp -implicitDefEqProofs [d36, w1, w2, d95, l1, l2, l3, hlt, k1, k2, k3, hx, hy, hz, m3, m4, hkw, g130]) (by rfl)⟩
                simp -implicitDefEqProofs [d36, w1, w2, d95, l1, l2, l3, hlt, k1, k2, k3, hx, hy, hz, m3, m4, hkw, g130, g130']
          refine WpC.condF (by simp -implicitDefEqProofs [d36, w1, w2, d95, l1, l2, l3, hlt, k1, k2, k3, hx, hy, hz, m3, m4, hkw] <;> rfl) ?_
          refine WpC.skip ?_
          refine WpC.ops tabOk (r := []) (by simp -implicitDefEqProofs [d36, w1, w2, d95, l1, l2, l3, hlt, k1, k2, k3, hx, hy, hz, m3, m4, hkw] <;> rfl) rfl ?_
          exact ⟨hlt, (), trivial, Gh.cut' [118, 11, 13, 15, 117] 0 (by simp -implicitDefEqProofs [d36, w1, w2, d95, l1, l2, l3, hlt, k1, k2, k3, hx, hy, hz, m3, m4, hkw]) (by simp) rfl (by simp) (by simp) (by simp)⟩
        · refine WpC.exit ?_
          have hkn : k = l.length := by omega
          subst hkn
          refine WpC.seq ?_
          refine WpC.region ?_
          refine WpO.data (by simp) rfl (by simp -implicitDefEqProofs [d36, w1, w2, d95, l1, l2, l3] <;> rfl) (by simp -implicitDefEqProofs [d36, w1, w2, d95, l1, l2, l3] <;> rfl) (by simp -implicitDefEqProofs [d36, w1, w2, d95, l1, l2, l3] <;> rfl) call_10 (by simp) (awake15_ok) (by rfl) (by simp -implicitDefEqProofs [d36, w1, w2, d95, l1, l2, l3] <;> rfl) ?_
          refine WpO.run tabOk 1 (by simp -implicitDefEqProofs [d36, w1, w2, d95, l1, l2, l3] <;> first | exact ⟨rfl, rfl⟩ | rfl) ?_
          refine WpO.nil ?_
          refine WpC.ret ?_
          try simp only [blockQ, seqQ]
          refine retD_i (by simp -implicitDefEqProofs [d36, w1, w2, d95, l1, l2, l3] <;> rfl) (by simp -implicitDefEqProofs [d36, w1, w2, d95, l1, l2, l3] <;> rfl) ?_
          simp -implicitDefEqProofs [d36, w1, w2, d95, l1, l2, l3]
section
variable {w : World}
theorem garnishMore_row {e0 e1 e2 e3 : List D} {v0 v1 v2 v3 : Value} {i0 i1 i2 i3 : TI} (y0 : HasT tab 8 3 e0) (y1 : HasT tab 8 3 e1) (y2 : HasT tab 8 3 e2) (y3 : HasT tab 8 22 e3) (t0 : some i0 = tab 3) (t1 : some i1 = tab 3) (t2 : some i2 = tab 3) (t3 : some i3 = tab 22)
    (z0 : DRel w (lt w) (elemD i0 e0) v0) (z1 : DRel w (lt w) (elemD i1 e1) v1) (z2 : DRel w (lt w) (elemD i2 e2) v2) (z3 : DRel w (lt w) (elemD i3 e3) v3) :
    Calls Try.prog 6 #[v0, v1, v2, v3] w fun e w' => e = .returned (.bool true) ∧ Below w.heap.size w w' := by
  rw [tab_3] at t0 t1 t2; cases t0; cases t1; cases t2
  rw [tab_22] at t3; cases t3
  obtain ⟨n, rfl, hn⟩ := has_num y0 tab_3
  obtain ⟨m, rfl, hm⟩ := has_num y1 tab_3
  obtain ⟨k, rfl, hk⟩ := has_num y2 tab_3
  obtain ⟨l, ho, hl, rfl⟩ := has_ords y3
  refine WpF.law (garnishMore_ok n m k l (i64_in hn) (i64_in hm) (i64_in hk) (by simpa [maxLen] using hl) ho) (fun r S h => h.1) (vs := [v0, v1, v2, v3]) ?_
  simp only [VRelL, VRel]
  exact ⟨v0, _, rfl, z0, v1, _, rfl, z1, v2, _, rfl, z2, v3, _, rfl, z3, rfl⟩
end
end Go.Proofs.Ytaobnhenjldjeaa.Pay
