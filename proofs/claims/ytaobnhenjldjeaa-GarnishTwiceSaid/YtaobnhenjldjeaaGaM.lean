/- Law GarnishTwice. No statement of the seed is proved here. -/
import Derived.Test.YtaobnhenjldjeaaGaJ
namespace Go.Proofs.Ytaobnhenjldjeaa.Pay
open Go Go.RowKit
set_option linter.unusedVariables false
set_option linter.unusedSimpArgs false
set_option linter.unusedSectionVars false

def bF (l : List Ord) (i : Nat) : Int := (ordAt l i).bal
/-- The sums paid, while a month's are added. -/
def pq (a b c : Nat → Int) (k : Nat) : Nat → Int := fun i => if i < k then a i - b i else a i - c i
theorem pq_zero (a b c : Nat → Int) : pq a b c 0 = fun i => a i - c i := by funext i; simp [pq]
theorem pq_step (a b c : Nat → Int) (k : Nat) : upd (pq a b c k) k (a k - b k) = pq a b c (k + 1) := by
  funext i
  unfold upd pq
  by_cases h : i = k
  · rw [if_pos h, if_pos (by omega), h]
  · rw [if_neg h]
    by_cases h2 : i < k
    · rw [if_pos h2, if_pos (by omega)]
    · rw [if_neg h2, if_neg (by omega)]
theorem pq_all (a b c : Nat → Int) (n : Nat) : rowF (pq a b c n) n = rowF (fun i => a i - b i) n := rowF_ext fun i hi => if_pos hi
/-- How things stand, month by month. -/
structure TwI (f w : List Ord) : Prop where
  len : w.length = f.length
  cl : ∀ o ∈ w, 0 ≤ o.claim ∧ o.claim < 1073741824
  bl : ∀ i, i < w.length → 0 ≤ bF w i ∧ bF w i ≤ bF f i
theorem TwI.step {f w : List Ord} (h : TwI f w) {K : List Int} (hl : K.length = w.length) (hK : ∀ i, i < w.length → 0 ≤ intAt K i ∧ intAt K i ≤ bF w i) : TwI f (payL w K w.length) ∧ ∀ i, i < w.length → bF (payL w K w.length) i = bF w i - intAt K i := by
  have hb : ∀ i, i < w.length → bF (payL w K w.length) i = bF w i - intAt K i := fun i hi => by
    unfold bF
    rw [ordAt_at (show i < (payL w K w.length).length by simpa using hi), payL_at, if_pos hi]; rfl
  refine ⟨⟨by simpa using h.len, fun o ho => ?_, fun i hi => ?_⟩, hb⟩
  · obtain ⟨i, hi, rfl⟩ := List.getElem_of_mem ho
    have hi' : i < w.length := by simpa using hi
    rw [payL_at, if_pos hi', ordAt_at hi']
    exact h.cl w[i] (List.getElem_mem hi')
  · have hi' : i < w.length := by simpa using hi
    have h1 := hK i hi'
    have h2 := h.bl i hi'
    rw [hb i hi']; omega

set_option maxHeartbeats 40000000 in
theorem garnishTwice_ok (l : List Ord) (net : Int) (hp : 0 ≤ net ∧ net ≤ 4294967295) (hl : l.length ≤ 9223372036854775807) (ho : ∀ o ∈ l, o.ok) : Gives Try.prog 8 [.d (encOs l), .d (.int .u32 net)] (.d (.bool true)) := by
  have e1 : IntKind.i64.wrap net = net := wrapI (by omega) (by omega)
  obtain ⟨f, hf⟩ : ∃ f, l.map (capO 1073741824) = f := ⟨_, rfl⟩
  have hfl : f.length = l.length := by rw [← hf]; simp
  have hfi : ∀ i (h : i < l.length), f[i]'(by omega) = capO 1073741824 l[i] := fun i h => by simp [← hf]
  obtain ⟨F, hF⟩ : ∃ F : Nat → List D, F = fun k => (f.take k).map Ord.enc := ⟨_, rfl⟩
  have F0 : F 0 = [] := by rw [hF]; rfl
  have FS : ∀ k (h : k < f.length), F (k + 1) = F k ++ [f[k].enc] := fun k h => by rw [hF]; simp only [List.take_add_one, List.getElem?_eq_getElem h, List.map_append]; rfl
  have FL : ∀ k, k ≤ f.length → (F k).length = k := fun k h => by rw [hF]; simp; omega
  have FN : F f.length = f.map Ord.enc := by rw [hF]; simp only [List.take_of_length_le (Nat.le_refl _)]
  clear hF
  refine Gives.enter tabOk Try.func8 rfl (by show 2 ≤ 124; decide) ?_
  simp only [Try.f8]
  refine WpC.seq (WpC.ops tabOk (r := []) (by simp -implicitDefEqProofs [e1, F0] <;> rfl) rfl ?_)
  refine WpC.seq ?_
  refine WpC.seq (WpC.ops tabOk (r := []) (by simp -implicitDefEqProofs [e1, F0] <;> rfl) rfl ?_)
  refine WpC.condD ((8 : Int) < l.length) (by simp -implicitDefEqProofs [e1, F0]) (fun d17 => ?_) (fun d17 => ?_)
  · refine WpC.seq ?_
    refine WpC.region ?_
    refine WpO.data (by simp) rfl (by simp -implicitDefEqProofs [e1, F0, d17] <;> rfl) (by simp -implicitDefEqProofs [e1, F0, d17] <;> rfl) (by simp -implicitDefEqProofs [e1, F0, d17] <;> rfl) call_10 (by simp) (awake15_ok) (by rfl) (by simp -implicitDefEqProofs [e1, F0, d17] <;> rfl) ?_
    refine WpO.run tabOk 1 (by simp -implicitDefEqProofs [e1, F0, d17] <;> first | exact ⟨rfl, rfl⟩ | rfl) ?_
    refine WpO.nil ?_
    refine WpC.ret ?_
    try simp only [blockQ, seqQ]
    refine retD_i (by simp -implicitDefEqProofs [e1, F0, d17] <;> rfl) (by simp -implicitDefEqProofs [e1, F0, d17] <;> rfl) ?_
    simp -implicitDefEqProofs [e1, F0, d17]
  · have hl8 : l.length ≤ 8 := by omega
    have hfb : ∀ o ∈ f, 0 ≤ o.claim ∧ o.claim < 1073741824 ∧ 0 ≤ o.bal ∧ o.bal < 1073741824 := fun o hx => by
      rw [← hf] at hx
      obtain ⟨y, _, rfl⟩ := List.mem_map.1 hx
      exact capO_b (by decide) y
    have hfbi : ∀ i, i < f.length → 0 ≤ bF f i ∧ bF f i < 1073741824 := fun i h => by
      unfold bF; rw [ordAt_at h]; exact (hfb _ (List.getElem_mem h)).2.2
    refine WpC.skip ?_
    refine WpC.seq (WpC.ops tabOk (r := []) (by simp -implicitDefEqProofs [e1, F0, d17] <;> rfl) rfl ?_)
    refine WpC.seq ?_
    refine WpC.gh (Gh.nilArr 35 4 (t := 5) (by simp) (by simp)) ?_
    refine WpC.seq (WpC.ops tabOk (r := []) (by simp -implicitDefEqProofs [e1, F0, d17] <;> rfl) rfl ?_)
    refine WpC.block ?_
    refine WpC.loopK [1, 19, 20] [5, 21] (l.length) (() : Unit) (fun k _ => [(5, .sl 0 k), (21, .d (.int .i64 k))]) (fun k _ => [.arr 35 4 (F k)]) (fun k _ => True) (by simp -implicitDefEqProofs [e1, F0, d17] <;> rfl) (Gh.cut' [5, 21, 1, 19, 20] 1 (by simp -implicitDefEqProofs [e1, F0, d17]) (by simp -implicitDefEqProofs [e1, F0, d17]) rfl (by simp) (by simp) (by simp)) (by simp) ?_
    rintro k ⟨⟩ hk hi
    simp only [List.cons_append, List.nil_append]
    refine WpC.seq (WpC.ops tabOk (r := []) (by simp -implicitDefEqProofs [e1, F0, d17] <;> rfl) rfl ?_)
    refine WpC.seq (WpC.condD (k < l.length) (by simp -implicitDefEqProofs [e1, F0, d17] <;> omega) (fun hlt => ?_) (fun hge => ?_))
    · refine WpC.skip ?_
      have hkf : k < f.length := by omega
      obtain ⟨x, hx⟩ : ∃ x, l[k] = x := ⟨_, rfl⟩
      have hfk := hfi k hlt
      have hFS := FS k hkf
      have hFL := FL k (by omega)
      rw [hfk, hx] at hFS
      simp only [capO, Ord.enc, Ord.cs] at hFS
      obtain ⟨Y, hY⟩ : ∃ Y, F k = Y := ⟨_, rfl⟩
      rw [hY] at hFS hFL
      have m1 : (max x.claim 0).tmod 1073741824 = max x.claim 0 % 1073741824 := Int.tmod_eq_emod_of_nonneg (by omega)
      have m2 : (max x.bal 0).tmod 1073741824 = max x.bal 0 % 1073741824 := Int.tmod_eq_emod_of_nonneg (by omega)
      have hkw : IntKind.i64.wrap ((k : Int) + 1) = k + 1 := wrapI (by omega) (by omega)
      have hks : k ≤ 8589934591 := by omega
      refine WpC.seq ?_
      refine WpC.block ?_
      refine WpC.seq (WpC.ops tabOk (r := []) (by simp -implicitDefEqProofs [e1, F0, d17, hlt, hx, hY, hFL, m1, m2, hkw, hks] <;> rfl) rfl ?_)
      refine WpC.seq (WpC.ops tabOk (r := []) (by simp -implicitDefEqProofs [e1, F0, d17, hlt, hx, hY, hFL, m1, m2, hkw, hks] <;> rfl) rfl ?_)
      refine WpC.ops tabOk (r := []) (by simp -implicitDefEqProofs [e1, F0, d17, hlt, hx, hY, hFL, m1, m2, hkw, hks] <;> rfl) rfl ?_
      refine WpC.ops tabOk (r := []) (by simp -implicitDefEqProofs [e1, F0, d17, hlt, hx, hY, hFL, m1, m2, hkw, hks] <;> rfl) rfl ?_
      exact ⟨hlt, (), trivial, Gh.pick [5, 21, 1, 19, 20] [3] (by simp -implicitDefEqProofs [e1, F0, d17, hlt, hx, hY, hFL, m1, m2, hkw, hks, hFS]; rfl) (by simp -implicitDefEqProofs [e1, F0, d17, hlt, hx, hY, hFL, m1, m2, hkw, hks, hFS]) (by simp) (by simp) (by simp; rfl) (by simp -implicitDefEqProofs [e1, F0, d17, hlt, hx, hY, hFL, m1, m2, hkw, hks, hFS]) (by simp)⟩
    · refine WpC.exit ?_
      have hkn : k = f.length := by omega
      subst hkn
      have hfs : f.length ≤ 8589934592 := by omega
      have hfs1 : (f.length : Int) ≤ 8589934592 := by omega
      obtain ⟨n, hn⟩ : ∃ n, f.length = n := ⟨_, rfl⟩
      rw [hn] at FN hfs hfs1
      have hFNl : (F n).length = n := by rw [FN]; simp [hn]
      have hz : List.replicate n (D.int .i64 0) = rowF (fun i => bF f i - bF f i) n := by
        rw [pk_zero (fun _ => 0) n]; exact rowF_ext fun i hi => by simp [pk]
      rw [hn]
      refine WpC.seq (WpC.ops tabOk (r := []) (by simp -implicitDefEqProofs [e1, F0, d17, hfs, hfs1, hFNl, hz] <;> rfl) rfl ?_)
      refine WpC.seq (WpC.ops tabOk (r := []) (by simp -implicitDefEqProofs [e1, F0, d17, hfs, hfs1, hFNl, hz] <;> rfl) rfl ?_)
      refine WpC.seq ?_
      rw [FN]
      refine WpC.gh (Gh.frz [0, 2]) ?_
      refine WpC.gh (Gh.view (t := 5) (x := .sl 0 n) (y := .d (encOs f)) (by simp) (by simp -implicitDefEqProofs [hn])) ?_
      refine WpC.gh (Gh.view (t := 8) (x := .sl 2 n) (y := .d (encOs f)) (by simp) (by simp -implicitDefEqProofs [hn])) ?_
      refine WpC.gh (Gh.pick [1, 5, 8, 9] [3] (by simp; rfl) (env' := [(1, .d (.int .u32 net)), (5, .d (encOs f)), (8, .d (encOs f)), (9, .sl 0 n)]) (by simp) (by simp) (by simp) (by simp; rfl) (S' := [.arr 3 1 (rowF (fun i => bF f i - bF f i) n)]) (by simp) (by simp)) ?_
      have ht0 : TwI f f := ⟨rfl, fun o h => by have := hfb o h; omega, fun i h => by have := hfbi i h; omega⟩
      refine WpC.seq (WpC.ops tabOk (r := []) (by simp -implicitDefEqProofs [e1, F0, d17, hfs, hfs1, hFNl, hz] <;> rfl) rfl ?_)
      refine WpC.block ?_
      refine WpC.loopK [1, 8, 9] [5, 46] (20) (f : List Ord) (fun k w => [(5, .d (encOs w)), (46, .d (.int .i64 k))]) (fun k w => [.arr 3 1 (rowF (fun i => bF f i - bF w i) n)]) (fun k w => TwI f w) (by simp -implicitDefEqProofs [e1, F0, d17, hfs, hfs1, hFNl, hz] <;> rfl) (Gh.cut' [5, 46, 1, 8, 9] 1 (by simp -implicitDefEqProofs [e1, F0, d17, hfs, hfs1, hFNl, hz]) (by simp -implicitDefEqProofs [e1, F0, d17, hfs, hfs1, hFNl, hz]) rfl (by simp) (by simp) (by simp)) (ht0) ?_
      rintro k w hk hi
      simp only [List.cons_append, List.nil_append]
      have hwl : w.length = n := hi.len.trans hn
      have hk20 : (k : Int) ≤ 20 := by omega
      refine WpC.seq (WpC.ops tabOk (r := []) (by simp -implicitDefEqProofs [e1, F0, d17, hfs, hfs1, hFNl, hz] <;> rfl) rfl ?_)
      refine WpC.seq (WpC.condD (k < 20) (by simp -implicitDefEqProofs [e1, F0, d17, hfs, hfs1, hFNl, hz] <;> omega) (fun hlt => ?_) (fun hge => ?_))
      · refine WpC.skip ?_
        have hi1 := hi
        have hkw : IntKind.i64.wrap ((k : Int) + 1) = k + 1 := wrapI (by omega) (by omega)
        have hwb : ∀ o ∈ w, 0 ≤ o.claim ∧ o.claim < 1073741824 ∧ 0 ≤ o.bal ∧ o.bal < 1073741824 := fun o h => by
          have h1 := hi.cl o h
          obtain ⟨i, hii, rfl⟩ := List.getElem_of_mem h
          have h2 := hi.bl i hii
          have h3 := hfbi i (by omega)
          unfold bF at h2
          rw [ordAt_at hii] at h2
          unfold bF at h3
          omega
        have c1 : chkE net 0 w = 0 := chk_zero (by omega) (by omega) (by omega) fun o h => by have := hwb o h; omega
        have v1 := serveL_ok net 0 w (by omega)
        obtain ⟨g1, _⟩ := chk_good c1
        obtain ⟨l1, i1⟩ := outI_facts c1
        rw [c1] at v1
        obtain ⟨K, hK⟩ : ∃ K, outI net 0 w = K := ⟨_, rfl⟩
        rw [hK] at v1 l1
        have hKb : ∀ i, i < w.length → 0 ≤ intAt K i ∧ intAt K i ≤ bF w i := fun i h => by
          have h1 := outN_le g1 h
          have h2 : i < K.length := by omega
          have h3 : K[i] = outN (at0 (net - 0)) (priF w) (wantF w) w.length i := by subst hK; exact i1 i h2
          rw [intAt_at h2, h3]
          rw [wantF_at h] at h1
          unfold bF
          rw [ordAt_at h]
          omega
        have v2 := paid_ok w K (by omega) (by omega) fun o h => by have := hwb o h; unfold in64; omega
        have hpb : paidB w K = true := by
          unfold paidB payB
          rw [Bool.and_eq_true]
          refine ⟨decide_eq_true l1.symm, ?_⟩
          rw [List.all_eq_true]
          intro i h
          exact decide_eq_true (hKb i (List.mem_range.1 h))
        rw [hpb, if_pos rfl] at v2
        obtain ⟨hT, hNb⟩ := hi.step l1 hKb
        obtain ⟨N, hN⟩ : ∃ N, payL w K w.length = N := ⟨_, rfl⟩
        rw [hN] at v2 hT hNb
        have hNl : N.length = n := hT.len.trans hn
        have hKl : K.length = n := l1.trans hwl
        have hp0 : rowF (fun i => bF f i - bF w i) n = rowF (pq (bF f) (bF N) (bF w) 0) n := by rw [pq_zero]
        have hpn := pq_all (bF f) (bF N) (bF w) n
        refine WpC.seq ?_
        refine WpC.block ?_
        refine WpC.seq ?_
        refine WpC.region ?_
        refine WpO.run tabOk 3 (by simp -implicitDefEqProofs [e1, F0, d17, hfs, hfs1, hFNl, hz, hlt, hkw, hNl, hKl, hwl, hp0] <;> first | exact ⟨rfl, rfl⟩ | rfl) ?_
        refine WpO.data (by simp) rfl (by simp -implicitDefEqProofs [e1, F0, d17, hfs, hfs1, hFNl, hz, hlt, hkw, hNl, hKl, hwl, hp0] <;> rfl) (by simp -implicitDefEqProofs [e1, F0, d17, hfs, hfs1, hFNl, hz, hlt, hkw, hNl, hKl, hwl, hp0] <;> rfl) (by simp -implicitDefEqProofs [e1, F0, d17, hfs, hfs1, hFNl, hz, hlt, hkw, hNl, hKl, hwl, hp0] <;> rfl) call_11 (by simp) (v1) (by rfl) (by simp -implicitDefEqProofs [e1, F0, d17, hfs, hfs1, hFNl, hz, hlt, hkw, hNl, hKl, hwl, hp0] <;> rfl) ?_
        refine WpO.run tabOk 5 (by simp -implicitDefEqProofs [e1, F0, d17, hfs, hfs1, hFNl, hz, hlt, hkw, hNl, hKl, hwl, hp0] <;> first | exact ⟨rfl, rfl⟩ | rfl) ?_
        refine WpO.nil ?_
        refine WpC.seq ?_
        refine WpC.region ?_
        refine WpO.run tabOk 2 (by simp -implicitDefEqProofs [e1, F0, d17, hfs, hfs1, hFNl, hz, hlt, hkw, hNl, hKl, hwl, hp0] <;> first | exact ⟨rfl, rfl⟩ | rfl) ?_
        refine WpO.data (by simp) rfl (by simp -implicitDefEqProofs [e1, F0, d17, hfs, hfs1, hFNl, hz, hlt, hkw, hNl, hKl, hwl, hp0] <;> rfl) (by simp -implicitDefEqProofs [e1, F0, d17, hfs, hfs1, hFNl, hz, hlt, hkw, hNl, hKl, hwl, hp0] <;> rfl) (by simp -implicitDefEqProofs [e1, F0, d17, hfs, hfs1, hFNl, hz, hlt, hkw, hNl, hKl, hwl, hp0] <;> rfl) call_15 (by simp) (v2) (by rfl) (by simp -implicitDefEqProofs [e1, F0, d17, hfs, hfs1, hFNl, hz, hlt, hkw, hNl, hKl, hwl, hp0] <;> rfl) ?_
        refine WpO.run tabOk 5 (by simp -implicitDefEqProofs [e1, F0, d17, hfs, hfs1, hFNl, hz, hlt, hkw, hNl, hKl, hwl, hp0] <;> first | exact ⟨rfl, rfl⟩ | rfl) ?_
        refine WpO.nil ?_
        refine WpC.seq ?_
        refine WpC.seq ?_
        refine WpC.val 80 (.d (.bool (false))) ?_ ?_
        · refine WpC.region ?_
          refine WpO.run tabOk 3 (by simp -implicitDefEqProofs [e1, F0, d17, hfs, hfs1, hFNl, hz, hlt, hkw, hNl, hKl, hwl, hp0] <;> first | exact ⟨rfl, rfl⟩ | rfl) ?_
          refine WpO.splitB 63 (by simp -implicitDefEqProofs [e1, F0, d17, hfs, hfs1, hFNl, hz, hlt, hkw, hNl, hKl, hwl, hp0] <;> rfl) (by rfl) (fun g63 => ?_) (fun g63 => ?_)
          · try (exfalso; revert g63; simp; done)
            all_goals
              have g63' := g63; first | simp only [dT, dF] at g63' | try simp at g63'
              refine WpO.run tabOk 17 (by simp -implicitDefEqProofs [e1, F0, d17, hfs, hfs1, hFNl, hz, hlt, hkw, hNl, hKl, hwl, hp0, g63] <;> first | exact ⟨rfl, rfl⟩ | rfl) ?_
              refine WpO.nil ?_
              refine ⟨rfl, Gh.only 80 21 ?_ (by first | rfl | simp -implicitDefEqProofs [e1, F0, d17, hfs, hfs1, hFNl, hz, hlt, hkw, hNl, hKl, hwl, hp0, g63]) (by rfl)⟩
              simp -implicitDefEqProofs [e1, F0, d17, hfs, hfs1, hFNl, hz, hlt, hkw, hNl, hKl, hwl, hp0, g63, g63']
          · try (exfalso; revert g63; simp; done)
            all_goals
              have g63' := g63; first | simp only [dT, dF] at g63' | try simp at g63'
              refine WpO.run tabOk 4 (by simp -implicitDefEqProofs [e1, F0, d17, hfs, hfs1, hFNl, hz, hlt, hkw, hNl, hKl, hwl, hp0, g63] <;> first | exact ⟨rfl, rfl⟩ | rfl) ?_
              refine WpO.splitB 67 (by simp -implicitDefEqProofs [e1, F0, d17, hfs, hfs1, hFNl, hz, hlt, hkw, hNl, hKl, hwl, hp0, g63] <;> rfl) (by rfl) (fun g67 => ?_) (fun g67 => ?_)
              · try (exfalso; revert g67; simp; done)
                all_goals
                  have g67' := g67; first | simp only [dT, dF] at g67' | try simp at g67'
                  refine WpO.run tabOk 13 (by simp -implicitDefEqProofs [e1, F0, d17, hfs, hfs1, hFNl, hz, hlt, hkw, hNl, hKl, hwl, hp0, g63, g67] <;> first | exact ⟨rfl, rfl⟩ | rfl) ?_
                  refine WpO.nil ?_
                  refine ⟨rfl, Gh.only 80 22 ?_ (by first | rfl | simp -implicitDefEqProofs [e1, F0, d17, hfs, hfs1, hFNl, hz, hlt, hkw, hNl, hKl, hwl, hp0, g63, g67]) (by rfl)⟩
                  simp -implicitDefEqProofs [e1, F0, d17, hfs, hfs1, hFNl, hz, hlt, hkw, hNl, hKl, hwl, hp0, g63, g67, g63', g67']
              · try (exfalso; revert g67; simp; done)
                all_goals
                  have g67' := g67; first | simp only [dT, dF] at g67' | try simp at g67'
                  refine WpO.run tabOk 7 (by simp -implicitDefEqProofs [e1, F0, d17, hfs, hfs1, hFNl, hz, hlt, hkw, hNl, hKl, hwl, hp0, g63, g67] <;> first | exact ⟨rfl, rfl⟩ | rfl) ?_
                  refine WpO.splitB 74 (by simp -implicitDefEqProofs [e1, F0, d17, hfs, hfs1, hFNl, hz, hlt, hkw, hNl, hKl, hwl, hp0, g63, g67] <;> rfl) (by rfl) (fun g74 => ?_) (fun g74 => ?_)
                  · try (exfalso; revert g74; simp; done)
                    all_goals
                      have g74' := g74; first | simp only [dT, dF] at g74' | try simp at g74'
                      refine WpO.run tabOk 6 (by simp -implicitDefEqProofs [e1, F0, d17, hfs, hfs1, hFNl, hz, hlt, hkw, hNl, hKl, hwl, hp0, g63, g67, g74] <;> first | exact ⟨rfl, rfl⟩ | rfl) ?_
                      refine WpO.nil ?_
                      refine ⟨rfl, Gh.only 80 23 ?_ (by first | rfl | simp -implicitDefEqProofs [e1, F0, d17, hfs, hfs1, hFNl, hz, hlt, hkw, hNl, hKl, hwl, hp0, g63, g67, g74]) (by rfl)⟩
                      simp -implicitDefEqProofs [e1, F0, d17, hfs, hfs1, hFNl, hz, hlt, hkw, hNl, hKl, hwl, hp0, g63, g67, g74, g63', g67', g74']
                  · try (exfalso; revert g74; simp; done)
                    all_goals
                      have g74' := g74; first | simp only [dT, dF] at g74' | try simp at g74'
                      refine WpO.run tabOk 6 (by simp -implicitDefEqProofs [e1, F0, d17, hfs, hfs1, hFNl, hz, hlt, hkw, hNl, hKl, hwl, hp0, g63, g67, g74] <;> first | exact ⟨rfl, rfl⟩ | rfl) ?_
                      refine WpO.nil ?_
                      refine ⟨rfl, Gh.only 80 23 ?_ (by first | rfl | simp -implicitDefEqProofs [e1, F0, d17, hfs, hfs1, hFNl, hz, hlt, hkw, hNl, hKl, hwl, hp0, g63, g67, g74]) (by rfl)⟩
                      simp -implicitDefEqProofs [e1, F0, d17, hfs, hfs1, hFNl, hz, hlt, hkw, hNl, hKl, hwl, hp0, g63, g67, g74, g63', g67', g74']
        refine WpC.condF (by simp -implicitDefEqProofs [e1, F0, d17, hfs, hfs1, hFNl, hz, hlt, hkw, hNl, hKl, hwl, hp0] <;> rfl) ?_
        refine WpC.skip ?_
        refine WpC.seq ?_
        obtain ⟨q, rfl⟩ : ∃ q, q = k := ⟨k, rfl⟩
        have hq20 : q < 20 := hlt
        have hqw := hkw
        refine WpC.seq (WpC.ops tabOk (r := []) (by simp -implicitDefEqProofs [e1, F0, d17, hfs, hfs1, hFNl, hz, hlt, hkw, hNl, hKl, hwl, hp0, hqw] <;> rfl) rfl ?_)
        refine WpC.block ?_
        refine WpC.loopK [1, 8, 9, 10, 12, 46, 82] [83] (n) (() : Unit) (fun k _ => [(83, .d (.int .i64 k))]) (fun k _ => [.arr 3 1 (rowF (pq (bF f) (bF N) (bF w) k) n)]) (fun k _ => True) (by simp -implicitDefEqProofs [e1, F0, d17, hfs, hfs1, hFNl, hz, hlt, hkw, hNl, hKl, hwl, hp0, hqw] <;> rfl) (Gh.cut' [83, 1, 8, 9, 10, 12, 46, 82] 1 (by simp -implicitDefEqProofs [e1, F0, d17, hfs, hfs1, hFNl, hz, hlt, hkw, hNl, hKl, hwl, hp0, hqw]) (by simp -implicitDefEqProofs [e1, F0, d17, hfs, hfs1, hFNl, hz, hlt, hkw, hNl, hKl, hwl, hp0, hqw]) rfl (by simp) (by simp) (by simp)) (by simp) ?_
        rintro k ⟨⟩ hk hi
        simp only [List.cons_append, List.nil_append]
        refine WpC.seq (WpC.ops tabOk (r := []) (by simp -implicitDefEqProofs [e1, F0, d17, hfs, hfs1, hFNl, hz, hlt, hkw, hNl, hKl, hwl, hp0, hqw] <;> rfl) rfl ?_)
        refine WpC.seq (WpC.condD (k < n) (by simp -implicitDefEqProofs [e1, F0, d17, hfs, hfs1, hFNl, hz, hlt, hkw, hNl, hKl, hwl, hp0, hqw] <;> omega) (fun hlt => ?_) (fun hge => ?_))
        · refine WpC.skip ?_
          have kf : k < f.length := by omega
          have kN : k < N.length := by omega
          have kK : k < K.length := by omega
          have kw : k < w.length := by omega
          obtain ⟨x, hx⟩ : ∃ x, f[k] = x := ⟨_, rfl⟩
          obtain ⟨y, hy⟩ : ∃ x, N[k] = x := ⟨_, rfl⟩
          obtain ⟨z, hz⟩ : ∃ x, K[k] = x := ⟨_, rfl⟩
          have b1 : bF f k = x.bal := by unfold bF; rw [ordAt_at kf, hx]
          have b2 : bF N k = y.bal := by unfold bF; rw [ordAt_at kN, hy]
          have b3 := hNb k kw
          rw [intAt_at kK, hz, b2] at b3
          have hup := pq_step (bF f) (bF N) (bF w) k
          rw [b1, b2] at hup
          have b4 := hfbi k kf
          have b5 := hT.bl k (by omega)
          have b6 := hi1.bl k kw
          have b7 := hKb k kw
          rw [intAt_at kK, hz] at b7
          rw [b1] at b4 b5 b6
          rw [b2] at b5
          have hpk : pq (bF f) (bF N) (bF w) k k = x.bal - bF w k := by unfold pq; rw [if_neg (by omega), b1]
          obtain ⟨G, hG⟩ : ∃ G, pq (bF f) (bF N) (bF w) k = G := ⟨_, rfl⟩
          rw [hG] at hup hpk
          have s1 : IntKind.i64.wrap (x.bal - bF w k + z) = x.bal - y.bal := by rw [wrapI (by omega) (by omega)]; omega
          have s2 : IntKind.i64.wrap x.bal = x.bal := wrapI (by omega) (by omega)
          have s3 : ¬ y.bal < 0 := by omega
          have s4 : upd G k (x.bal - y.bal) k = x.bal - y.bal := if_pos rfl
          have hjw : IntKind.i64.wrap ((k : Int) + 1) = k + 1 := wrapI (by omega) (by omega)
          refine WpC.seq ?_
          refine WpC.block ?_
          refine WpC.seq (WpC.ops tabOk (r := []) (by simp -implicitDefEqProofs [e1, F0, d17, hfs, hfs1, hFNl, hz, hlt, hkw, hNl, hKl, hwl, hp0, hqw, hlt, kf, kN, kK, hx, hy, hz, hG, hpk, s1, s2, s3, s4, hjw] <;> rfl) rfl ?_)
          refine WpC.seq (WpC.drawn tabOk (by kernel_rfl) 0 (by simp) ?_)
          refine DrO.run (fz := []) 3 (by simp -implicitDefEqProofs [e1, F0, d17, hfs, hfs1, hFNl, hz, hlt, hkw, hNl, hKl, hwl, hp0, hqw, hlt, kf, kN, kK, hx, hy, hz, hG, hpk, s1, s2, s3, s4, hjw] <;> first | exact ⟨rfl, rfl, rfl, rfl⟩ | rfl) ?_
          refine DrO.run (fz := []) 3 (by simp -implicitDefEqProofs [e1, F0, d17, hfs, hfs1, hFNl, hz, hlt, hkw, hNl, hKl, hwl, hp0, hqw, hlt, kf, kN, kK, hx, hy, hz, hG, hpk, s1, s2, s3, s4, hjw] <;> first | exact ⟨rfl, rfl, rfl, rfl⟩ | rfl) ?_
          refine DrO.run (fz := []) 3 (by simp -implicitDefEqProofs [e1, F0, d17, hfs, hfs1, hFNl, hz, hlt, hkw, hNl, hKl, hwl, hp0, hqw, hlt, kf, kN, kK, hx, hy, hz, hG, hpk, s1, s2, s3, s4, hjw] <;> first | exact ⟨rfl, rfl, rfl, rfl⟩ | rfl) ?_
          refine DrO.run (fz := []) 2 (by simp -implicitDefEqProofs [e1, F0, d17, hfs, hfs1, hFNl, hz, hlt, hkw, hNl, hKl, hwl, hp0, hqw, hlt, kf, kN, kK, hx, hy, hz, hG, hpk, s1, s2, s3, s4, hjw] <;> first | exact ⟨rfl, rfl, rfl, rfl⟩ | rfl) ?_
          refine DrO.nil ⟨by kernel_rfl, ?_⟩
          refine WpC.seq ?_
          refine WpC.val 119 (.d (.bool (false))) ?_ ?_
          · refine WpC.drawn tabOk (by kernel_rfl) 0 (by simp) ?_
            refine DrO.run (fz := []) 3 (by simp -implicitDefEqProofs [e1, F0, d17, hfs, hfs1, hFNl, hz, hlt, hkw, hNl, hKl, hwl, hp0, hqw, hlt, kf, kN, kK, hx, hy, hz, hG, hpk, s1, s2, s3, s4, hjw] <;> first | exact ⟨rfl, rfl, rfl, rfl⟩ | rfl) ?_
            refine DrO.run (fz := []) 3 (by simp -implicitDefEqProofs [e1, F0, d17, hfs, hfs1, hFNl, hz, hlt, hkw, hNl, hKl, hwl, hp0, hqw, hlt, kf, kN, kK, hx, hy, hz, hG, hpk, s1, s2, s3, s4, hjw] <;> first | exact ⟨rfl, rfl, rfl, rfl⟩ | rfl) ?_
            refine DrO.run (fz := []) 3 (by simp -implicitDefEqProofs [e1, F0, d17, hfs, hfs1, hFNl, hz, hlt, hkw, hNl, hKl, hwl, hp0, hqw, hlt, kf, kN, kK, hx, hy, hz, hG, hpk, s1, s2, s3, s4, hjw] <;> first | exact ⟨rfl, rfl, rfl, rfl⟩ | rfl) ?_
            refine DrO.run (fz := []) 3 (by simp -implicitDefEqProofs [e1, F0, d17, hfs, hfs1, hFNl, hz, hlt, hkw, hNl, hKl, hwl, hp0, hqw, hlt, kf, kN, kK, hx, hy, hz, hG, hpk, s1, s2, s3, s4, hjw] <;> first | exact ⟨rfl, rfl, rfl, rfl⟩ | rfl) ?_
            refine DrO.run (fz := []) 3 (by simp -implicitDefEqProofs [e1, F0, d17, hfs, hfs1, hFNl, hz, hlt, hkw, hNl, hKl, hwl, hp0, hqw, hlt, kf, kN, kK, hx, hy, hz, hG, hpk, s1, s2, s3, s4, hjw] <;> first | exact ⟨rfl, rfl, rfl, rfl⟩ | rfl) ?_
            refine DrO.run (fz := []) 2 (by simp -implicitDefEqProofs [e1, F0, d17, hfs, hfs1, hFNl, hz, hlt, hkw, hNl, hKl, hwl, hp0, hqw, hlt, kf, kN, kK, hx, hy, hz, hG, hpk, s1, s2, s3, s4, hjw] <;> first | exact ⟨rfl, rfl, rfl, rfl⟩ | rfl) ?_
            refine DrO.splitB 112 (by simp -implicitDefEqProofs [e1, F0, d17, hfs, hfs1, hFNl, hz, hlt, hkw, hNl, hKl, hwl, hp0, hqw, hlt, kf, kN, kK, hx, hy, hz, hG, hpk, s1, s2, s3, s4, hjw] <;> rfl) (by rfl) (fun g112 => ?_) (fun g112 => ?_)
            · try (exfalso; revert g112; simp; done)
              all_goals
                have g112' := g112; first | simp only [dT, dF] at g112' | try simp at g112'
                refine DrO.run (fz := []) 3 (by simp -implicitDefEqProofs [e1, F0, d17, hfs, hfs1, hFNl, hz, hlt, hkw, hNl, hKl, hwl, hp0, hqw, hlt, kf, kN, kK, hx, hy, hz, hG, hpk, s1, s2, s3, s4, hjw, g112] <;> first | exact ⟨rfl, rfl, rfl, rfl⟩ | rfl) ?_
                refine DrO.run (fz := []) 3 (by simp -implicitDefEqProofs [e1, F0, d17, hfs, hfs1, hFNl, hz, hlt, hkw, hNl, hKl, hwl, hp0, hqw, hlt, kf, kN, kK, hx, hy, hz, hG, hpk, s1, s2, s3, s4, hjw, g112] <;> first | exact ⟨rfl, rfl, rfl, rfl⟩ | rfl) ?_
                refine DrO.run (fz := []) 1 (by simp -implicitDefEqProofs [e1, F0, d17, hfs, hfs1, hFNl, hz, hlt, hkw, hNl, hKl, hwl, hp0, hqw, hlt, kf, kN, kK, hx, hy, hz, hG, hpk, s1, s2, s3, s4, hjw, g112] <;> first | exact ⟨rfl, rfl, rfl, rfl⟩ | rfl) ?_
                refine DrO.nil ⟨by kernel_rfl, ?_⟩
                refine ⟨rfl, Gh.only 119 24 ?_ (by first | rfl | simp -implicitDefEqProofs [e1, F0, d17, hfs, hfs1, hFNl, hz, hlt, hkw, hNl, hKl, hwl, hp0, hqw, hlt, kf, kN, kK, hx, hy, hz, hG, hpk, s1, s2, s3, s4, hjw, g112]) (by rfl)⟩
                simp -implicitDefEqProofs [e1, F0, d17, hfs, hfs1, hFNl, hz, hlt, hkw, hNl, hKl, hwl, hp0, hqw, hlt, kf, kN, kK, hx, hy, hz, hG, hpk, s1, s2, s3, s4, hjw, g112, g112']
            · try (exfalso; revert g112; simp; done)
              all_goals
                have g112' := g112; first | simp only [dT, dF] at g112' | try simp at g112'
                refine DrO.run (fz := []) 3 (by simp -implicitDefEqProofs [e1, F0, d17, hfs, hfs1, hFNl, hz, hlt, hkw, hNl, hKl, hwl, hp0, hqw, hlt, kf, kN, kK, hx, hy, hz, hG, hpk, s1, s2, s3, s4, hjw, g112] <;> first | exact ⟨rfl, rfl, rfl, rfl⟩ | rfl) ?_
                refine DrO.run (fz := []) 3 (by simp -implicitDefEqProofs [e1, F0, d17, hfs, hfs1, hFNl, hz, hlt, hkw, hNl, hKl, hwl, hp0, hqw, hlt, kf, kN, kK, hx, hy, hz, hG, hpk, s1, s2, s3, s4, hjw, g112] <;> first | exact ⟨rfl, rfl, rfl, rfl⟩ | rfl) ?_
                refine DrO.run (fz := []) 1 (by simp -implicitDefEqProofs [e1, F0, d17, hfs, hfs1, hFNl, hz, hlt, hkw, hNl, hKl, hwl, hp0, hqw, hlt, kf, kN, kK, hx, hy, hz, hG, hpk, s1, s2, s3, s4, hjw, g112] <;> first | exact ⟨rfl, rfl, rfl, rfl⟩ | rfl) ?_
                refine DrO.nil ⟨by kernel_rfl, ?_⟩
                refine ⟨rfl, Gh.only 119 24 ?_ (by first | rfl | simp -implicitDefEqProofs [e1, F0, d17, hfs, hfs1, hFNl, hz, hlt, hkw, hNl, hKl, hwl, hp0, hqw, hlt, kf, kN, kK, hx, hy, hz, hG, hpk, s1, s2, s3, s4, hjw, g112]) (by rfl)⟩
                simp -implicitDefEqProofs [e1, F0, d17, hfs, hfs1, hFNl, hz, hlt, hkw, hNl, hKl, hwl, hp0, hqw, hlt, kf, kN, kK, hx, hy, hz, hG, hpk, s1, s2, s3, s4, hjw, g112, g112']
          refine WpC.condF (by simp -implicitDefEqProofs [e1, F0, d17, hfs, hfs1, hFNl, hz, hlt, hkw, hNl, hKl, hwl, hp0, hqw, hlt, kf, kN, kK, hx, hy, hz, hG, hpk, s1, s2, s3, s4, hjw] <;> rfl) ?_
          refine WpC.skip ?_
          refine WpC.ops tabOk (r := []) (by simp -implicitDefEqProofs [e1, F0, d17, hfs, hfs1, hFNl, hz, hlt, hkw, hNl, hKl, hwl, hp0, hqw, hlt, kf, kN, kK, hx, hy, hz, hG, hpk, s1, s2, s3, s4, hjw] <;> rfl) rfl ?_
          exact ⟨hlt, (), trivial, Gh.cut' [83, 1, 8, 9, 10, 12, 46, 82] 1 (by simp -implicitDefEqProofs [e1, F0, d17, hfs, hfs1, hFNl, hz, hlt, hkw, hNl, hKl, hwl, hp0, hqw, hlt, kf, kN, kK, hx, hy, hz, hG, hpk, s1, s2, s3, s4, hjw, hup]) (by simp -implicitDefEqProofs [e1, F0, d17, hfs, hfs1, hFNl, hz, hlt, hkw, hNl, hKl, hwl, hp0, hqw, hlt, kf, kN, kK, hx, hy, hz, hG, hpk, s1, s2, s3, s4, hjw, hup]) rfl (by simp) (by simp) (by simp)⟩
        · refine WpC.exit ?_
          have hkn : n = k := by omega
          subst hkn
          refine WpC.ops tabOk (r := []) (by simp -implicitDefEqProofs [e1, F0, d17, hfs, hfs1, hFNl, hz, hlt, hkw, hNl, hKl, hwl, hp0, hqw] <;> rfl) rfl ?_
          refine WpC.ops tabOk (r := []) (by simp -implicitDefEqProofs [e1, F0, d17, hfs, hfs1, hFNl, hz, hlt, hkw, hNl, hKl, hwl, hp0, hqw] <;> rfl) rfl ?_
          exact ⟨hlt, N, hT, Gh.cut' [5, 46, 1, 8, 9] 1 (by simp -implicitDefEqProofs [e1, F0, d17, hfs, hfs1, hFNl, hz, hlt, hkw, hNl, hKl, hwl, hp0, hqw, hpn]) (by simp -implicitDefEqProofs [e1, F0, d17, hfs, hfs1, hFNl, hz, hlt, hkw, hNl, hKl, hwl, hp0, hqw, hpn]) rfl (by simp) (by simp) (by simp)⟩
      · refine WpC.exit ?_
        have hkn : k = 20 := by omega
        subst hkn
        refine WpC.seq ?_
        refine WpC.region ?_
        refine WpO.data (by simp) rfl (by simp -implicitDefEqProofs [e1, F0, d17, hfs, hfs1, hFNl, hz] <;> rfl) (by simp -implicitDefEqProofs [e1, F0, d17, hfs, hfs1, hFNl, hz] <;> rfl) (by simp -implicitDefEqProofs [e1, F0, d17, hfs, hfs1, hFNl, hz] <;> rfl) call_10 (by simp) (awake15_ok) (by rfl) (by simp -implicitDefEqProofs [e1, F0, d17, hfs, hfs1, hFNl, hz] <;> rfl) ?_
        refine WpO.run tabOk 1 (by simp -implicitDefEqProofs [e1, F0, d17, hfs, hfs1, hFNl, hz] <;> first | exact ⟨rfl, rfl⟩ | rfl) ?_
        refine WpO.nil ?_
        refine WpC.ret ?_
        try simp only [blockQ, seqQ]
        refine retD_i (by simp -implicitDefEqProofs [e1, F0, d17, hfs, hfs1, hFNl, hz] <;> rfl) (by simp -implicitDefEqProofs [e1, F0, d17, hfs, hfs1, hFNl, hz] <;> rfl) ?_
        simp -implicitDefEqProofs [e1, F0, d17, hfs, hfs1, hFNl, hz]
section
variable {w : World}
theorem garnishTwice_row {e0 e1 : List D} {v0 v1 : Value} {i0 i1 : TI} (y0 : HasT tab 8 22 e0) (y1 : HasT tab 8 38 e1) (t0 : some i0 = tab 22) (t1 : some i1 = tab 38)
    (z0 : DRel w (lt w) (elemD i0 e0) v0) (z1 : DRel w (lt w) (elemD i1 e1) v1) :
    Calls Try.prog 8 #[v0, v1] w fun e w' => e = .returned (.bool true) ∧ Below w.heap.size w w' := by
  rw [tab_22] at t0; cases t0
  rw [tab_38] at t1; cases t1
  obtain ⟨l, ho, hl, rfl⟩ := has_ords y0
  obtain ⟨m, rfl, hm⟩ := has_num y1 tab_38
  refine WpF.law (garnishTwice_ok l m ⟨hm.1, hm.2⟩ (by simpa [maxLen] using hl) ho) (fun r S h => h.1) (vs := [v0, v1]) ?_
  simp only [VRelL, VRel]
  exact ⟨v0, _, rfl, z0, v1, _, rfl, z1, rfl⟩
end
end Go.Proofs.Ytaobnhenjldjeaa.Pay
