/- Law BankOrder. No statement of the seed is proved here but that one's walk. -/
import Derived.Test.YtjlamhilnkadcaaDoorBkQ
namespace Go.Proofs.YtjlamhilnkadcaaDoor.Pay
open Go Go.RowKit
set_option linter.unusedVariables false
set_option linter.unusedSimpArgs false

theorem cmpP_lt (a b : Pm) : cmpP a b < 0 ↔ b.kind < a.kind ∨ (b.kind = a.kind ∧ a.num < b.num) := by
  unfold cmpP orI cmpI
  by_cases h1 : b.kind < a.kind
  · simp [h1]
  · by_cases h2 : a.kind < b.kind
    · simp [h1, h2]; omega
    · by_cases h3 : a.num < b.num
      · simp [h1, h2, h3]; omega
      · by_cases h4 : b.num < a.num
        · simp [h1, h2, h3, h4]
        · simp [h1, h2, h3, h4]
theorem cmpP_trans {a b c : Pm} (h1 : cmpP a b < 0) (h2 : cmpP b c < 0) : cmpP a c < 0 := by
  rw [cmpP_lt] at *; omega
theorem cmpP_irr (a : Pm) : ¬ cmpP a a < 0 := by
  rw [cmpP_lt]; omega
/-- Payments rise. -/
theorem rises {l : List Pm} (h : allB l l.length = true) {i j : Nat} (hij : i < j) (hj : j < l.length) : cmpP l[i] l[j] < 0 := by
  induction j with
  | zero => omega
  | succ j ih =>
    have h1 := allB_at h hj
    have hk : (j + 1 : Nat) ≠ 0 := by omega
    have hj0 : j < l.length := by omega
    have h2 : cmpP l[j] l[j + 1] < 0 := by
      rw [atB, Bool.and_eq_true, Bool.or_eq_true, decide_eq_true_eq, decide_eq_true_eq] at h1
      have h3 := h1.2.resolve_left hk
      rw [List.getD_eq_getElem?_getD, List.getD_eq_getElem?_getD, Nat.add_sub_cancel, List.getElem?_eq_getElem hj, List.getElem?_eq_getElem hj0] at h3
      exact h3
    by_cases e : i = j
    · subst e; exact h2
    · exact cmpP_trans (ih (by omega) (by omega)) h2
theorem right_all {per : Int} {l : List Pm} (h : rightB per l = true) : allB l l.length = true := by
  simp only [rightB, Bool.and_eq_true] at h; exact h.1.1.1
theorem swap_no {per : Int} {l : List Pm} (h : rightB per l = true) {a b : Nat} (hab : a < b) (hb : b < l.length) {q p : Pm} (hp : l[a] = p) (hq : l[b] = q) (l2 : List Pm) (h2 : l2.length = l.length) (ha2 : l2[a]? = some q) (hb2 : l2[b]? = some p) : rightB per l2 = false := by
  cases hr : rightB per l2 with
  | false => rfl
  | true =>
    have e1 := rises (right_all h) hab hb
    have e2 := rises (right_all hr) hab (by omega)
    have ea : l2[a] = q := by rw [List.getElem?_eq_getElem (by omega)] at ha2; exact Option.some.inj ha2
    have eb : l2[b] = p := by rw [List.getElem?_eq_getElem (by omega)] at hb2; exact Option.some.inj hb2
    rw [ea, eb] at e2
    rw [hp, hq] at e1
    exact absurd (cmpP_trans e1 e2) (cmpP_irr p)
theorem swap_right {per : Int} {l : List Pm} (h : rightB per l = true) {a b : Nat} (ha : a < l.length) (hb : b < l.length) : rightB per ((l.set a l[b]).set b l[a]) = decide (a = b) := by
  by_cases e : a = b
  · subst e
    have : (l.set a l[a]).set a l[a] = l := by simp
    rw [this, h]; simp
  · have hd : decide (a = b) = false := by simp [e]
    rw [hd]
    rcases Nat.lt_or_gt_of_ne e with h1 | h1
    · exact swap_no h h1 hb rfl rfl _ (by simp) (by simp [List.getElem?_set, hb, ha, e, Ne.symm e]) (by simp [List.getElem?_set, hb, ha])
    · exact swap_no h h1 ha rfl rfl _ (by simp) (by simp [List.getElem?_set, hb, ha]) (by simp [List.getElem?_set, hb, ha, e, Ne.symm e])
theorem twice_no {per : Int} {l : List Pm} {a : Nat} (ha : a < l.length) : rightB per (l ++ [l[a]]) = false := by
  cases hr : rightB per (l ++ [l[a]]) with
  | false => rfl
  | true =>
    have h1 := rises (right_all hr) ha (by simp)
    rw [List.getElem_append_left ha] at h1
    simp at h1
    exact absurd h1 (cmpP_irr _)

theorem order_no (per : Int) (l : List Pm) (i j : Int) (hl : l.length ≤ 100) (h : ¬ (2 ≤ l.length ∧ rightB per l = true)) : Gives Tryd.prog 7 [.d (encF per l), .d (.int .u8 i), .d (.int .u8 j)] (.d (.bool true)) := by
  have hf := ref_ok per l (by omega)
  have hg := right22_ok per l (by omega)
  refine Gives.enter tabOk Tryd.func7 rfl (by show 3 ≤ 106; decide) ?_
  simp only [Tryd.f7]
  iterate 2 refine qR (by simp -implicitDefEqProofs <;> rfl) ?_
  refine WpC.seq ?_
  refine WpC.seq ?_
  refine WpC.val 29 (.d (.bool (true))) ?_ ?_
  · refine WpC.region ?_
    refine WpO.run tabOk 3 (by simp -implicitDefEqProofs <;> first | exact ⟨rfl, rfl⟩ | rfl) ?_
    refine WpO.splitB 20 (by simp -implicitDefEqProofs <;> rfl) (by rfl) (fun g20 => ?_) (fun g20 => ?_)
    · have g20' := g20; first | simp only [dT, dF] at g20' | try simp at g20'
      refine WpO.run tabOk 9 (by simp -implicitDefEqProofs [g20] <;> first | exact ⟨rfl, rfl⟩ | rfl) ?_
      refine WpO.nil ?_
      refine ⟨rfl, Gh.only 29 13 ?_ (by first | rfl | simp -implicitDefEqProofs [g20]) (by rfl)⟩
      simp -implicitDefEqProofs [g20, g20']
    have g20' := g20; first | simp only [dT, dF] at g20' | try simp at g20'
    refine WpO.run tabOk 4 (by simp -implicitDefEqProofs [g20] <;> first | exact ⟨rfl, rfl⟩ | rfl) ?_
    refine WpO.splitB 24 (by simp -implicitDefEqProofs [g20] <;> rfl) (by rfl) (fun g24 => ?_) (fun g24 => ?_)
    · have g24' := g24; first | simp only [dT, dF] at g24' | try simp at g24'
      refine WpO.run tabOk 5 (by simp -implicitDefEqProofs [g20, g24] <;> first | exact ⟨rfl, rfl⟩ | rfl) ?_
      refine WpO.nil ?_
      refine ⟨rfl, Gh.only 29 14 ?_ (by first | rfl | simp -implicitDefEqProofs [g20, g24]) (by rfl)⟩
      simp -implicitDefEqProofs [g20, g24, g20', g24']
    have g24' := g24; first | simp only [dT, dF] at g24' | try simp at g24'
    have hx : rightB per l = false := by
        cases hr : rightB per l with
        | false => rfl
        | true => exact absurd ⟨by omega, hr⟩ h
    refine WpO.run tabOk 1 (by simp -implicitDefEqProofs [g20, g24, hx] <;> first | exact ⟨rfl, rfl⟩ | rfl) ?_
    refine WpO.data (by simp) rfl (by simp -implicitDefEqProofs [g20, g24, hx] <;> rfl) (by simp -implicitDefEqProofs [g20, g24, hx] <;> rfl) (by simp -implicitDefEqProofs [g20, g24, hx] <;> rfl) call_11 (by simp) (hf) (by rfl) (by simp -implicitDefEqProofs [g20, g24, hx] <;> rfl) ?_
    refine WpO.data (by simp) rfl (by simp -implicitDefEqProofs [g20, g24, hx] <;> rfl) (by simp -implicitDefEqProofs [g20, g24, hx] <;> rfl) (by simp -implicitDefEqProofs [g20, g24, hx] <;> rfl) call_10 (by simp) (hg) (by rfl) (by simp -implicitDefEqProofs [g20, g24, hx] <;> rfl) ?_
    refine WpO.run tabOk 2 (by simp -implicitDefEqProofs [g20, g24, hx] <;> first | exact ⟨rfl, rfl⟩ | rfl) ?_
    refine WpO.nil ?_
    refine ⟨rfl, Gh.only 29 14 ?_ (by first | rfl | simp -implicitDefEqProofs [g20, g24, hx]) (by rfl)⟩
    simp -implicitDefEqProofs [g20, g24, hx, g20', g24']
  refine WpC.condT (by simp -implicitDefEqProofs <;> rfl) ?_
  refine WpC.seq ?_
  refine WpC.region ?_
  refine WpO.data (by simp) rfl (by simp -implicitDefEqProofs <;> rfl) (by simp -implicitDefEqProofs <;> rfl) (by simp -implicitDefEqProofs <;> rfl) call_8 (by simp) (awake_ok) (by rfl) (by simp -implicitDefEqProofs <;> rfl) ?_
  refine WpO.run tabOk 1 (by simp -implicitDefEqProofs <;> first | exact ⟨rfl, rfl⟩ | rfl) ?_
  refine WpO.nil ?_
  refine WpC.ret ?_
  try simp only [blockQ, seqQ]
  refine retD_i (by simp -implicitDefEqProofs <;> rfl) (by simp -implicitDefEqProofs <;> rfl) ?_
  simp -implicitDefEqProofs
theorem order_long (per : Int) (l : List Pm) (i j : Int) (h : 100 < l.length) : Gives Tryd.prog 7 [.d (encF per l), .d (.int .u8 i), .d (.int .u8 j)] (.d (.bool true)) := by
  have h2 : (100 : Int) < l.length := by omega
  have h3 : ¬ (l.length : Int) < 2 := by omega
  refine Gives.enter tabOk Tryd.func7 rfl (by show 3 ≤ 106; decide) ?_
  simp only [Tryd.f7]
  iterate 2 refine qR (by simp -implicitDefEqProofs [h2, h3] <;> rfl) ?_
  refine WpC.seq ?_
  refine WpC.seq ?_
  refine WpC.region ?_
  refine WpO.run tabOk 3 (by simp -implicitDefEqProofs [h2, h3] <;> first | exact ⟨rfl, rfl⟩ | rfl) ?_
  refine WpO.splitB 20 (by simp -implicitDefEqProofs [h2, h3] <;> rfl) (by rfl) (fun g20 => ?_) (fun g20 => ?_)
  · try (exfalso; revert g20; simp; done)
    all_goals
      have g20' := g20; first | simp only [dT, dF] at g20' | try simp at g20'
      refine WpO.run tabOk 9 (by simp -implicitDefEqProofs [h2, h3, g20] <;> first | exact ⟨rfl, rfl⟩ | rfl) ?_
      refine WpO.nil ?_
      refine WpC.condT (by simp -implicitDefEqProofs [h2, h3, g20] <;> rfl) ?_
      refine WpC.seq ?_
      refine WpC.region ?_
      refine WpO.data (by simp) rfl (by simp -implicitDefEqProofs [h2, h3, g20] <;> rfl) (by simp -implicitDefEqProofs [h2, h3, g20] <;> rfl) (by simp -implicitDefEqProofs [h2, h3, g20] <;> rfl) call_8 (by simp) (awake_ok) (by rfl) (by simp -implicitDefEqProofs [h2, h3, g20] <;> rfl) ?_
      refine WpO.run tabOk 1 (by simp -implicitDefEqProofs [h2, h3, g20] <;> first | exact ⟨rfl, rfl⟩ | rfl) ?_
      refine WpO.nil ?_
      refine WpC.ret ?_
      try simp only [blockQ, seqQ]
      refine retD_i (by simp -implicitDefEqProofs [h2, h3, g20] <;> rfl) (by simp -implicitDefEqProofs [h2, h3, g20] <;> rfl) ?_
      simp -implicitDefEqProofs [h2, h3, g20]
  · try (exfalso; revert g20; simp; done)
    all_goals
      have g20' := g20; first | simp only [dT, dF] at g20' | try simp at g20'
      refine WpO.run tabOk 4 (by simp -implicitDefEqProofs [h2, h3, g20] <;> first | exact ⟨rfl, rfl⟩ | rfl) ?_
      refine WpO.splitB 24 (by simp -implicitDefEqProofs [h2, h3, g20] <;> rfl) (by rfl) (fun g24 => ?_) (fun g24 => ?_)
      · try (exfalso; revert g24; simp; done)
        all_goals
          have g24' := g24; first | simp only [dT, dF] at g24' | try simp at g24'
          refine WpO.run tabOk 5 (by simp -implicitDefEqProofs [h2, h3, g20, g24] <;> first | exact ⟨rfl, rfl⟩ | rfl) ?_
          refine WpO.nil ?_
          refine WpC.condT (by simp -implicitDefEqProofs [h2, h3, g20, g24] <;> rfl) ?_
          refine WpC.seq ?_
          refine WpC.region ?_
          refine WpO.data (by simp) rfl (by simp -implicitDefEqProofs [h2, h3, g20, g24] <;> rfl) (by simp -implicitDefEqProofs [h2, h3, g20, g24] <;> rfl) (by simp -implicitDefEqProofs [h2, h3, g20, g24] <;> rfl) call_8 (by simp) (awake_ok) (by rfl) (by simp -implicitDefEqProofs [h2, h3, g20, g24] <;> rfl) ?_
          refine WpO.run tabOk 1 (by simp -implicitDefEqProofs [h2, h3, g20, g24] <;> first | exact ⟨rfl, rfl⟩ | rfl) ?_
          refine WpO.nil ?_
          refine WpC.ret ?_
          try simp only [blockQ, seqQ]
          refine retD_i (by simp -implicitDefEqProofs [h2, h3, g20, g24] <;> rfl) (by simp -implicitDefEqProofs [h2, h3, g20, g24] <;> rfl) ?_
          simp -implicitDefEqProofs [h2, h3, g20, g24]
      · try (exfalso; revert g24; simp; done)
        all_goals
          have g24' := g24; first | simp only [dT, dF] at g24' | try simp at g24'
          refine WpO.run tabOk 1 (by simp -implicitDefEqProofs [h2, h3, g20, g24] <;> first | exact ⟨rfl, rfl⟩ | rfl) ?_
          contradiction
          contradiction
          refine WpO.run tabOk 2 (by simp -implicitDefEqProofs [h2, h3, g20, g24] <;> first | exact ⟨rfl, rfl⟩ | rfl) ?_
          refine WpO.nil ?_
          refine WpC.condT (by simp -implicitDefEqProofs [h2, h3, g20, g24] <;> rfl) ?_
          refine WpC.seq ?_
          refine WpC.region ?_
          refine WpO.data (by simp) rfl (by simp -implicitDefEqProofs [h2, h3, g20, g24] <;> rfl) (by simp -implicitDefEqProofs [h2, h3, g20, g24] <;> rfl) (by simp -implicitDefEqProofs [h2, h3, g20, g24] <;> rfl) call_8 (by simp) (awake_ok) (by rfl) (by simp -implicitDefEqProofs [h2, h3, g20, g24] <;> rfl) ?_
          refine WpO.run tabOk 1 (by simp -implicitDefEqProofs [h2, h3, g20, g24] <;> first | exact ⟨rfl, rfl⟩ | rfl) ?_
          refine WpO.nil ?_
          refine WpC.ret ?_
          try simp only [blockQ, seqQ]
          refine retD_i (by simp -implicitDefEqProofs [h2, h3, g20, g24] <;> rfl) (by simp -implicitDefEqProofs [h2, h3, g20, g24] <;> rfl) ?_
          simp -implicitDefEqProofs [h2, h3, g20, g24]
set_option maxHeartbeats 4000000 in
theorem order_yes (per : Int) (l : List Pm) (i j : Int) (hi0 : 0 ≤ i) (hi1 : i ≤ 255) (hj0 : 0 ≤ j) (hj1 : j ≤ 255) (h2 : 2 ≤ l.length) (h100 : l.length ≤ 100) (hr : rightB per l = true) :
    Gives Tryd.prog 7 [.d (encF per l), .d (.int .u8 i), .d (.int .u8 j)] (.d (.bool true)) := by
  have hf := ref_ok per l (by omega)
  have hg := right22_ok per l (by omega)
  rw [hr] at hg
  have k1 : ¬ (l.length : Int) < 2 := by omega
  have k2 : ¬ (100 : Int) < l.length := by omega
  have k3 : ¬ l = [] := fun e => by subst e; simp at h2
  have w1 : IntKind.i64.wrap i = i := wrapI (by omega) (by omega)
  have w2 : IntKind.i64.wrap j = j := wrapI (by omega) (by omega)
  obtain ⟨a, ha⟩ : ∃ a : Nat, i.tmod (l.length : Int) = a := ⟨(i.tmod (l.length : Int)).toNat, by rw [Int.toNat_of_nonneg (Int.tmod_nonneg _ hi0)]⟩
  obtain ⟨b, hb⟩ : ∃ b : Nat, j.tmod (l.length : Int) = b := ⟨(j.tmod (l.length : Int)).toNat, by rw [Int.toNat_of_nonneg (Int.tmod_nonneg _ hj0)]⟩
  have hal : a < l.length := by have := Int.tmod_lt_of_pos i (b := (l.length : Int)) (by omega); omega
  have hbl : b < l.length := by have := Int.tmod_lt_of_pos j (b := (l.length : Int)) (by omega); omega
  have r1 := right_ok per ((l.set a l[b]).set b l[a]) (by simp; omega)
  rw [swap_right hr hal hbl] at r1
  have r2 := right_ok per (l ++ [l[a]]) (by simp; omega)
  rw [twice_no hal] at r2
  have r3 := right_ok per l (by omega)
  rw [hr] at r3
  have hw := writeA_ok per (l ++ [l[a]]) (by simp; omega)
  have hs : wrS per (l ++ [l[a]]) = [] := by rw [wrS, if_neg (by simp [twice_no hal])]
  have he : wrE per (l ++ [l[a]]) = 1 := by rw [wrE, if_neg (by simp [twice_no hal])]
  rw [hs, he] at hw
  obtain ⟨p, hp⟩ : ∃ p, l[a] = p := ⟨_, rfl⟩
  obtain ⟨q, hq⟩ : ∃ q, l[b] = q := ⟨_, rfl⟩
  simp only [encF, encPm, List.map_set, List.map_append, List.map_cons, List.map_nil, hp, hq] at r1 r2 hw
  have hab : decide ((a : Int) = b) = decide (a = b) := decide_eq_decide.2 (by omega)
  have hz : ((l.map Pm.enc).set a (D.agg [D.int IntKind.u8 q.kind, dI q.num, dI q.amt]))[b]'(by simp; exact hbl) = D.agg [D.int IntKind.u8 ((l.set a q)[b]'(by simp; exact hbl)).kind, dI ((l.set a q)[b]'(by simp; exact hbl)).num, dI ((l.set a q)[b]'(by simp; exact hbl)).amt] := by
    have : (l.map Pm.enc).set a (D.agg [D.int IntKind.u8 q.kind, dI q.num, dI q.amt]) = (l.set a q).map Pm.enc := by rw [List.map_set]
    simp only [this, List.getElem_map]
  obtain ⟨z, hzz⟩ : ∃ z, (l.set a q)[b]'(by simp; exact hbl) = z := ⟨_, rfl⟩
  rw [hzz] at hz
  have k4 : l.length ≤ 8589934592 := by omega
  have k5 : l.length + 1 ≤ 8589934592 := by omega
  have k6 : l.length ≤ 8589934591 := by omega
  refine Gives.enter tabOk Tryd.func7 rfl (by show 3 ≤ 106; decide) ?_
  simp only [Tryd.f7]
  have H1 := And.intro k1 (And.intro k2 (And.intro k3 (And.intro k4 (And.intro k5 (And.intro k6 (And.intro w1 (And.intro w2 (And.intro ha (And.intro hb (And.intro hal (And.intro hbl (And.intro hp (And.intro hq (And.intro hz hab))))))))))))))
  iterate 2 refine qR (by simp -implicitDefEqProofs [H1] <;> rfl) ?_
  refine WpC.seq ?_
  refine WpC.seq ?_
  refine WpC.region ?_
  refine WpO.run tabOk 3 (by simp -implicitDefEqProofs [H1] <;> first | exact ⟨rfl, rfl⟩ | rfl) ?_
  refine WpO.splitB 20 (by simp -implicitDefEqProofs [H1] <;> rfl) (by rfl) (fun g20 => ?_) (fun g20 => ?_)
  · try (exfalso; revert g20; simp; done)
    all_goals
      have g20' := g20; first | simp only [dT, dF] at g20' | try simp at g20'
      refine WpO.run tabOk 9 (by simp -implicitDefEqProofs [H1, g20] <;> first | exact ⟨rfl, rfl⟩ | rfl) ?_
      refine WpO.nil ?_
      refine WpC.condF (by simp -implicitDefEqProofs [H1, g20] <;> rfl) ?_
      refine WpC.skip ?_
      refine WpC.seq (WpC.drawn tabOk (by kernel_rfl) 0 (by simp) ?_)
      refine DrO.run (fz := []) 3 (by simp -implicitDefEqProofs [H1, g20] <;> first | exact ⟨rfl, rfl, rfl, rfl⟩ | rfl) ?_
      refine DrO.run (fz := []) 3 (by simp -implicitDefEqProofs [H1, g20] <;> first | exact ⟨rfl, rfl, rfl, rfl⟩ | rfl) ?_
      refine DrO.run (fz := []) 3 (by simp -implicitDefEqProofs [H1, g20] <;> first | exact ⟨rfl, rfl, rfl, rfl⟩ | rfl) ?_
      refine DrO.run (fz := []) 1 (by simp -implicitDefEqProofs [H1, g20] <;> first | exact ⟨rfl, rfl, rfl, rfl⟩ | rfl) ?_
      refine DrO.nil ⟨by kernel_rfl, ?_⟩
      refine qR (by simp -implicitDefEqProofs [H1, g20] <;> rfl) ?_
      refine WpC.seq (WpC.drawn tabOk (by kernel_rfl) 0 (by simp) ?_)
      refine DrO.run (fz := []) 3 (by simp -implicitDefEqProofs [H1, g20] <;> first | exact ⟨rfl, rfl, rfl, rfl⟩ | rfl) ?_
      refine DrO.run (fz := []) 3 (by simp -implicitDefEqProofs [H1, g20] <;> first | exact ⟨rfl, rfl, rfl, rfl⟩ | rfl) ?_
      refine DrO.run (fz := []) 3 (by simp -implicitDefEqProofs [H1, g20] <;> first | exact ⟨rfl, rfl, rfl, rfl⟩ | rfl) ?_
      refine DrO.run (fz := []) 3 (by simp -implicitDefEqProofs [H1, g20] <;> first | exact ⟨rfl, rfl, rfl, rfl⟩ | rfl) ?_
      refine DrO.run (fz := []) 3 (by simp -implicitDefEqProofs [H1, g20] <;> first | exact ⟨rfl, rfl, rfl, rfl⟩ | rfl) ?_
      refine DrO.run (fz := []) 1 (by simp -implicitDefEqProofs [H1, g20] <;> first | exact ⟨rfl, rfl, rfl, rfl⟩ | rfl) ?_
      refine DrO.nil ⟨by kernel_rfl, ?_⟩
      refine qR (by simp -implicitDefEqProofs [H1, g20] <;> rfl) ?_
      refine WpC.seq (WpC.drawn tabOk (by kernel_rfl) 5 (by simp) ?_)
      refine DrO.run (fz := []) 3 (by simp -implicitDefEqProofs [H1, g20] <;> first | exact ⟨rfl, rfl, rfl, rfl⟩ | rfl) ?_
      refine DrO.run (fz := []) 3 (by simp -implicitDefEqProofs [H1, g20] <;> first | exact ⟨rfl, rfl, rfl, rfl⟩ | rfl) ?_
      refine DrO.run (fz := []) 3 (by simp -implicitDefEqProofs [H1, g20] <;> first | exact ⟨rfl, rfl, rfl, rfl⟩ | rfl) ?_
      refine DrO.run (fz := []) 3 (by simp -implicitDefEqProofs [H1, g20] <;> first | exact ⟨rfl, rfl, rfl, rfl⟩ | rfl) ?_
      refine DrO.run (fz := []) 3 (by simp -implicitDefEqProofs [H1, g20] <;> first | exact ⟨rfl, rfl, rfl, rfl⟩ | rfl) ?_
      refine DrO.run (fz := []) 1 (by simp -implicitDefEqProofs [H1, g20] <;> first | exact ⟨rfl, rfl, rfl, rfl⟩ | rfl) ?_
      refine DrO.nil ⟨by kernel_rfl, ?_⟩
      refine WpC.seq ?_
      refine WpC.region ?_
      refine WpO.run tabOk 1 (by simp -implicitDefEqProofs [H1, g20] <;> first | exact ⟨rfl, rfl⟩ | rfl) ?_
      refine WpO.lend (by simp) rfl (by simp -implicitDefEqProofs [H1, g20] <;> rfl) (by simp -implicitDefEqProofs [H1, g20] <;> rfl) (by simp -implicitDefEqProofs [H1, g20] <;> rfl) call_9 (hw) (by rfl) (by simp -implicitDefEqProofs [H1, g20] <;> rfl) ?_
      refine WpO.run tabOk 5 (by simp -implicitDefEqProofs [H1, g20] <;> first | exact ⟨rfl, rfl⟩ | rfl) ?_
      refine WpO.nil ?_
      refine WpC.seq ?_
      refine WpC.region ?_
      refine WpO.run tabOk 1 (by simp -implicitDefEqProofs [H1, g20] <;> first | exact ⟨rfl, rfl⟩ | rfl) ?_
      refine WpO.lend (by simp) rfl (by simp -implicitDefEqProofs [H1, g20] <;> rfl) (by simp -implicitDefEqProofs [H1, g20] <;> rfl) (by simp -implicitDefEqProofs [H1, g20] <;> rfl) call_12 (r1) (by rfl) (by simp -implicitDefEqProofs [H1, g20] <;> rfl) ?_
      refine WpO.run tabOk 5 (by simp -implicitDefEqProofs [H1, g20] <;> first | exact ⟨rfl, rfl⟩ | rfl) ?_
      refine WpO.splitB 86 (by simp -implicitDefEqProofs [H1, g20] <;> rfl) (by rfl) (fun g86 => ?_) (fun g86 => ?_)
      · try (exfalso; revert g86; simp; done)
        all_goals
          have g86' := g86; first | simp only [dT, dF] at g86' | try simp at g86'
          refine WpO.run tabOk 1 (by simp -implicitDefEqProofs [H1, g20, g86] <;> first | exact ⟨rfl, rfl⟩ | rfl) ?_
          refine WpO.lend (by simp) rfl (by simp -implicitDefEqProofs [H1, g20, g86] <;> rfl) (by simp -implicitDefEqProofs [H1, g20, g86] <;> rfl) (by simp -implicitDefEqProofs [H1, g20, g86] <;> rfl) call_12 (r2) (by rfl) (by simp -implicitDefEqProofs [H1, g20, g86] <;> rfl) ?_
          refine WpO.run tabOk 3 (by simp -implicitDefEqProofs [H1, g20, g86] <;> first | exact ⟨rfl, rfl⟩ | rfl) ?_
          refine WpO.splitB 91 (by simp -implicitDefEqProofs [H1, g20, g86] <;> rfl) (by rfl) (fun g91 => ?_) (fun g91 => ?_)
          · try (exfalso; revert g91; simp; done)
            all_goals
              have g91' := g91; first | simp only [dT, dF] at g91' | try simp at g91'
              refine WpO.run tabOk 4 (by simp -implicitDefEqProofs [H1, g20, g86, g91] <;> first | exact ⟨rfl, rfl⟩ | rfl) ?_
              refine WpO.splitB 95 (by simp -implicitDefEqProofs [H1, g20, g86, g91] <;> rfl) (by rfl) (fun g95 => ?_) (fun g95 => ?_)
              · try (exfalso; revert g95; simp; done)
                all_goals
                  have g95' := g95; first | simp only [dT, dF] at g95' | try simp at g95'
                  refine WpO.run tabOk 4 (by simp -implicitDefEqProofs [H1, g20, g86, g91, g95] <;> first | exact ⟨rfl, rfl⟩ | rfl) ?_
                  refine WpO.splitB 99 (by simp -implicitDefEqProofs [H1, g20, g86, g91, g95] <;> rfl) (by rfl) (fun g99 => ?_) (fun g99 => ?_)
                  · try (exfalso; revert g99; simp; done)
                    all_goals
                      have g99' := g99; first | simp only [dT, dF] at g99' | try simp at g99'
                      refine WpO.run tabOk 1 (by simp -implicitDefEqProofs [H1, g20, g86, g91, g95, g99] <;> first | exact ⟨rfl, rfl⟩ | rfl) ?_
                      refine WpO.data (by simp) rfl (by simp -implicitDefEqProofs [H1, g20, g86, g91, g95, g99] <;> rfl) (by simp -implicitDefEqProofs [H1, g20, g86, g91, g95, g99] <;> rfl) (by simp -implicitDefEqProofs [H1, g20, g86, g91, g95, g99] <;> rfl) call_12 (by simp) (r3) (by rfl) (by simp -implicitDefEqProofs [H1, g20, g86, g91, g95, g99] <;> rfl) ?_
                      refine WpO.run tabOk 2 (by simp -implicitDefEqProofs [H1, g20, g86, g91, g95, g99] <;> first | exact ⟨rfl, rfl⟩ | rfl) ?_
                      refine WpO.splitB 103 (by simp -implicitDefEqProofs [H1, g20, g86, g91, g95, g99] <;> rfl) (by rfl) (fun g103 => ?_) (fun g103 => ?_)
                      · try (exfalso; revert g103; simp; done)
                        all_goals
                          have g103' := g103; first | simp only [dT, dF] at g103' | try simp at g103'
                          refine WpO.data (by simp) rfl (by simp -implicitDefEqProofs [H1, g20, g86, g91, g95, g99, g103] <;> rfl) (by simp -implicitDefEqProofs [H1, g20, g86, g91, g95, g99, g103] <;> rfl) (by simp -implicitDefEqProofs [H1, g20, g86, g91, g95, g99, g103] <;> rfl) call_8 (by simp) (awake_ok) (by rfl) (by simp -implicitDefEqProofs [H1, g20, g86, g91, g95, g99, g103] <;> rfl) ?_
                          refine WpO.run tabOk 2 (by simp -implicitDefEqProofs [H1, g20, g86, g91, g95, g99, g103] <;> first | exact ⟨rfl, rfl⟩ | rfl) ?_
                          refine WpO.nil ?_
                          refine WpC.ret ?_
                          try simp only [blockQ, seqQ]
                          refine retD_i (by simp -implicitDefEqProofs [H1, g20, g86, g91, g95, g99, g103] <;> rfl) (by simp -implicitDefEqProofs [H1, g20, g86, g91, g95, g99, g103] <;> rfl) ?_
                          simp -implicitDefEqProofs [H1, g20, g86, g91, g95, g99, g103]
                      · try (exfalso; revert g103; simp; done)
                        all_goals
                          have g103' := g103; first | simp only [dT, dF] at g103' | try simp at g103'
                          refine WpO.run tabOk 3 (by simp -implicitDefEqProofs [H1, g20, g86, g91, g95, g99, g103] <;> first | exact ⟨rfl, rfl⟩ | rfl) ?_
                          refine WpO.nil ?_
                          refine WpC.ret ?_
                          try simp only [blockQ, seqQ]
                          refine retD_i (by simp -implicitDefEqProofs [H1, g20, g86, g91, g95, g99, g103] <;> rfl) (by simp -implicitDefEqProofs [H1, g20, g86, g91, g95, g99, g103] <;> rfl) ?_
                          simp -implicitDefEqProofs [H1, g20, g86, g91, g95, g99, g103]
                  · try (exfalso; revert g99; simp; done)
                    all_goals
                      have g99' := g99; first | simp only [dT, dF] at g99' | try simp at g99'
                      refine WpO.run tabOk 7 (by simp -implicitDefEqProofs [H1, g20, g86, g91, g95, g99] <;> first | exact ⟨rfl, rfl⟩ | rfl) ?_
                      refine WpO.nil ?_
                      refine WpC.ret ?_
                      try simp only [blockQ, seqQ]
                      refine retD_i (by simp -implicitDefEqProofs [H1, g20, g86, g91, g95, g99] <;> rfl) (by simp -implicitDefEqProofs [H1, g20, g86, g91, g95, g99] <;> rfl) ?_
                      simp -implicitDefEqProofs [H1, g20, g86, g91, g95, g99]
              · try (exfalso; revert g95; simp; done)
                all_goals
                  have g95' := g95; first | simp only [dT, dF] at g95' | try simp at g95'
                  refine WpO.run tabOk 11 (by simp -implicitDefEqProofs [H1, g20, g86, g91, g95] <;> first | exact ⟨rfl, rfl⟩ | rfl) ?_
                  refine WpO.nil ?_
                  refine WpC.ret ?_
                  try simp only [blockQ, seqQ]
                  refine retD_i (by simp -implicitDefEqProofs [H1, g20, g86, g91, g95] <;> rfl) (by simp -implicitDefEqProofs [H1, g20, g86, g91, g95] <;> rfl) ?_
                  simp -implicitDefEqProofs [H1, g20, g86, g91, g95]
          · try (exfalso; revert g91; simp; done)
            all_goals
              have g91' := g91; first | simp only [dT, dF] at g91' | try simp at g91'
              refine WpO.run tabOk 15 (by simp -implicitDefEqProofs [H1, g20, g86, g91] <;> first | exact ⟨rfl, rfl⟩ | rfl) ?_
              refine WpO.nil ?_
              refine WpC.ret ?_
              try simp only [blockQ, seqQ]
              refine retD_i (by simp -implicitDefEqProofs [H1, g20, g86, g91] <;> rfl) (by simp -implicitDefEqProofs [H1, g20, g86, g91] <;> rfl) ?_
              simp -implicitDefEqProofs [H1, g20, g86, g91]
      · try (exfalso; revert g86; simp; done)
        all_goals
          have g86' := g86; first | simp only [dT, dF] at g86' | try simp at g86'
          refine WpO.run tabOk 20 (by simp -implicitDefEqProofs [H1, g20, g86] <;> first | exact ⟨rfl, rfl⟩ | rfl) ?_
          refine WpO.nil ?_
          refine WpC.ret ?_
          try simp only [blockQ, seqQ]
          refine retD_i (by simp -implicitDefEqProofs [H1, g20, g86] <;> rfl) (by simp -implicitDefEqProofs [H1, g20, g86] <;> rfl) ?_
          simp -implicitDefEqProofs [H1, g20, g86]
  · try (exfalso; revert g20; simp; done)
    all_goals
      have g20' := g20; first | simp only [dT, dF] at g20' | try simp at g20'
      refine WpO.run tabOk 4 (by simp -implicitDefEqProofs [H1, g20] <;> first | exact ⟨rfl, rfl⟩ | rfl) ?_
      refine WpO.splitB 24 (by simp -implicitDefEqProofs [H1, g20] <;> rfl) (by rfl) (fun g24 => ?_) (fun g24 => ?_)
      · try (exfalso; revert g24; simp; done)
        all_goals
          have g24' := g24; first | simp only [dT, dF] at g24' | try simp at g24'
          refine WpO.run tabOk 5 (by simp -implicitDefEqProofs [H1, g20, g24] <;> first | exact ⟨rfl, rfl⟩ | rfl) ?_
          refine WpO.nil ?_
          refine WpC.condF (by simp -implicitDefEqProofs [H1, g20, g24] <;> rfl) ?_
          refine WpC.skip ?_
          refine WpC.seq (WpC.drawn tabOk (by kernel_rfl) 0 (by simp) ?_)
          refine DrO.run (fz := []) 3 (by simp -implicitDefEqProofs [H1, g20, g24] <;> first | exact ⟨rfl, rfl, rfl, rfl⟩ | rfl) ?_
          refine DrO.run (fz := []) 3 (by simp -implicitDefEqProofs [H1, g20, g24] <;> first | exact ⟨rfl, rfl, rfl, rfl⟩ | rfl) ?_
          refine DrO.run (fz := []) 3 (by simp -implicitDefEqProofs [H1, g20, g24] <;> first | exact ⟨rfl, rfl, rfl, rfl⟩ | rfl) ?_
          refine DrO.run (fz := []) 1 (by simp -implicitDefEqProofs [H1, g20, g24] <;> first | exact ⟨rfl, rfl, rfl, rfl⟩ | rfl) ?_
          refine DrO.nil ⟨by kernel_rfl, ?_⟩
          refine qR (by simp -implicitDefEqProofs [H1, g20, g24] <;> rfl) ?_
          refine WpC.seq (WpC.drawn tabOk (by kernel_rfl) 0 (by simp) ?_)
          refine DrO.run (fz := []) 3 (by simp -implicitDefEqProofs [H1, g20, g24] <;> first | exact ⟨rfl, rfl, rfl, rfl⟩ | rfl) ?_
          refine DrO.run (fz := []) 3 (by simp -implicitDefEqProofs [H1, g20, g24] <;> first | exact ⟨rfl, rfl, rfl, rfl⟩ | rfl) ?_
          refine DrO.run (fz := []) 3 (by simp -implicitDefEqProofs [H1, g20, g24] <;> first | exact ⟨rfl, rfl, rfl, rfl⟩ | rfl) ?_
          refine DrO.run (fz := []) 3 (by simp -implicitDefEqProofs [H1, g20, g24] <;> first | exact ⟨rfl, rfl, rfl, rfl⟩ | rfl) ?_
          refine DrO.run (fz := []) 3 (by simp -implicitDefEqProofs [H1, g20, g24] <;> first | exact ⟨rfl, rfl, rfl, rfl⟩ | rfl) ?_
          refine DrO.run (fz := []) 1 (by simp -implicitDefEqProofs [H1, g20, g24] <;> first | exact ⟨rfl, rfl, rfl, rfl⟩ | rfl) ?_
          refine DrO.nil ⟨by kernel_rfl, ?_⟩
          refine qR (by simp -implicitDefEqProofs [H1, g20, g24] <;> rfl) ?_
          refine WpC.seq (WpC.drawn tabOk (by kernel_rfl) 5 (by simp) ?_)
          refine DrO.run (fz := []) 3 (by simp -implicitDefEqProofs [H1, g20, g24] <;> first | exact ⟨rfl, rfl, rfl, rfl⟩ | rfl) ?_
          refine DrO.run (fz := []) 3 (by simp -implicitDefEqProofs [H1, g20, g24] <;> first | exact ⟨rfl, rfl, rfl, rfl⟩ | rfl) ?_
          refine DrO.run (fz := []) 3 (by simp -implicitDefEqProofs [H1, g20, g24] <;> first | exact ⟨rfl, rfl, rfl, rfl⟩ | rfl) ?_
          refine DrO.run (fz := []) 3 (by simp -implicitDefEqProofs [H1, g20, g24] <;> first | exact ⟨rfl, rfl, rfl, rfl⟩ | rfl) ?_
          refine DrO.run (fz := []) 3 (by simp -implicitDefEqProofs [H1, g20, g24] <;> first | exact ⟨rfl, rfl, rfl, rfl⟩ | rfl) ?_
          refine DrO.run (fz := []) 1 (by simp -implicitDefEqProofs [H1, g20, g24] <;> first | exact ⟨rfl, rfl, rfl, rfl⟩ | rfl) ?_
          refine DrO.nil ⟨by kernel_rfl, ?_⟩
          refine WpC.seq ?_
          refine WpC.region ?_
          refine WpO.run tabOk 1 (by simp -implicitDefEqProofs [H1, g20, g24] <;> first | exact ⟨rfl, rfl⟩ | rfl) ?_
          refine WpO.lend (by simp) rfl (by simp -implicitDefEqProofs [H1, g20, g24] <;> rfl) (by simp -implicitDefEqProofs [H1, g20, g24] <;> rfl) (by simp -implicitDefEqProofs [H1, g20, g24] <;> rfl) call_9 (hw) (by rfl) (by simp -implicitDefEqProofs [H1, g20, g24] <;> rfl) ?_
          refine WpO.run tabOk 5 (by simp -implicitDefEqProofs [H1, g20, g24] <;> first | exact ⟨rfl, rfl⟩ | rfl) ?_
          refine WpO.nil ?_
          refine WpC.seq ?_
          refine WpC.region ?_
          refine WpO.run tabOk 1 (by simp -implicitDefEqProofs [H1, g20, g24] <;> first | exact ⟨rfl, rfl⟩ | rfl) ?_
          refine WpO.lend (by simp) rfl (by simp -implicitDefEqProofs [H1, g20, g24] <;> rfl) (by simp -implicitDefEqProofs [H1, g20, g24] <;> rfl) (by simp -implicitDefEqProofs [H1, g20, g24] <;> rfl) call_12 (r1) (by rfl) (by simp -implicitDefEqProofs [H1, g20, g24] <;> rfl) ?_
          refine WpO.run tabOk 5 (by simp -implicitDefEqProofs [H1, g20, g24] <;> first | exact ⟨rfl, rfl⟩ | rfl) ?_
          refine WpO.splitB 86 (by simp -implicitDefEqProofs [H1, g20, g24] <;> rfl) (by rfl) (fun g86 => ?_) (fun g86 => ?_)
          · try (exfalso; revert g86; simp; done)
            all_goals
              have g86' := g86; first | simp only [dT, dF] at g86' | try simp at g86'
              refine WpO.run tabOk 1 (by simp -implicitDefEqProofs [H1, g20, g24, g86] <;> first | exact ⟨rfl, rfl⟩ | rfl) ?_
              refine WpO.lend (by simp) rfl (by simp -implicitDefEqProofs [H1, g20, g24, g86] <;> rfl) (by simp -implicitDefEqProofs [H1, g20, g24, g86] <;> rfl) (by simp -implicitDefEqProofs [H1, g20, g24, g86] <;> rfl) call_12 (r2) (by rfl) (by simp -implicitDefEqProofs [H1, g20, g24, g86] <;> rfl) ?_
              refine WpO.run tabOk 3 (by simp -implicitDefEqProofs [H1, g20, g24, g86] <;> first | exact ⟨rfl, rfl⟩ | rfl) ?_
              refine WpO.splitB 91 (by simp -implicitDefEqProofs [H1, g20, g24, g86] <;> rfl) (by rfl) (fun g91 => ?_) (fun g91 => ?_)
              · try (exfalso; revert g91; simp; done)
                all_goals
                  have g91' := g91; first | simp only [dT, dF] at g91' | try simp at g91'
                  refine WpO.run tabOk 4 (by simp -implicitDefEqProofs [H1, g20, g24, g86, g91] <;> first | exact ⟨rfl, rfl⟩ | rfl) ?_
                  refine WpO.splitB 95 (by simp -implicitDefEqProofs [H1, g20, g24, g86, g91] <;> rfl) (by rfl) (fun g95 => ?_) (fun g95 => ?_)
                  · try (exfalso; revert g95; simp; done)
                    all_goals
                      have g95' := g95; first | simp only [dT, dF] at g95' | try simp at g95'
                      refine WpO.run tabOk 4 (by simp -implicitDefEqProofs [H1, g20, g24, g86, g91, g95] <;> first | exact ⟨rfl, rfl⟩ | rfl) ?_
                      refine WpO.splitB 99 (by simp -implicitDefEqProofs [H1, g20, g24, g86, g91, g95] <;> rfl) (by rfl) (fun g99 => ?_) (fun g99 => ?_)
                      · try (exfalso; revert g99; simp; done)
                        all_goals
                          have g99' := g99; first | simp only [dT, dF] at g99' | try simp at g99'
                          refine WpO.run tabOk 1 (by simp -implicitDefEqProofs [H1, g20, g24, g86, g91, g95, g99] <;> first | exact ⟨rfl, rfl⟩ | rfl) ?_
                          refine WpO.data (by simp) rfl (by simp -implicitDefEqProofs [H1, g20, g24, g86, g91, g95, g99] <;> rfl) (by simp -implicitDefEqProofs [H1, g20, g24, g86, g91, g95, g99] <;> rfl) (by simp -implicitDefEqProofs [H1, g20, g24, g86, g91, g95, g99] <;> rfl) call_12 (by simp) (r3) (by rfl) (by simp -implicitDefEqProofs [H1, g20, g24, g86, g91, g95, g99] <;> rfl) ?_
                          refine WpO.run tabOk 2 (by simp -implicitDefEqProofs [H1, g20, g24, g86, g91, g95, g99] <;> first | exact ⟨rfl, rfl⟩ | rfl) ?_
                          refine WpO.splitB 103 (by simp -implicitDefEqProofs [H1, g20, g24, g86, g91, g95, g99] <;> rfl) (by rfl) (fun g103 => ?_) (fun g103 => ?_)
                          · try (exfalso; revert g103; simp; done)
                            all_goals
                              have g103' := g103; first | simp only [dT, dF] at g103' | try simp at g103'
                              refine WpO.data (by simp) rfl (by simp -implicitDefEqProofs [H1, g20, g24, g86, g91, g95, g99, g103] <;> rfl) (by simp -implicitDefEqProofs [H1, g20, g24, g86, g91, g95, g99, g103] <;> rfl) (by simp -implicitDefEqProofs [H1, g20, g24, g86, g91, g95, g99, g103] <;> rfl) call_8 (by simp) (awake_ok) (by rfl) (by simp -implicitDefEqProofs [H1, g20, g24, g86, g91, g95, g99, g103] <;> rfl) ?_
                              refine WpO.run tabOk 2 (by simp -implicitDefEqProofs [H1, g20, g24, g86, g91, g95, g99, g103] <;> first | exact ⟨rfl, rfl⟩ | rfl) ?_
                              refine WpO.nil ?_
                              refine WpC.ret ?_
                              try simp only [blockQ, seqQ]
                              refine retD_i (by simp -implicitDefEqProofs [H1, g20, g24, g86, g91, g95, g99, g103] <;> rfl) (by simp -implicitDefEqProofs [H1, g20, g24, g86, g91, g95, g99, g103] <;> rfl) ?_
                              simp -implicitDefEqProofs [H1, g20, g24, g86, g91, g95, g99, g103]
                          · try (exfalso; revert g103; simp; done)
                            all_goals
                              have g103' := g103; first | simp only [dT, dF] at g103' | try simp at g103'
                              refine WpO.run tabOk 3 (by simp -implicitDefEqProofs [H1, g20, g24, g86, g91, g95, g99, g103] <;> first | exact ⟨rfl, rfl⟩ | rfl) ?_
                              refine WpO.nil ?_
                              refine WpC.ret ?_
                              try simp only [blockQ, seqQ]
                              refine retD_i (by simp -implicitDefEqProofs [H1, g20, g24, g86, g91, g95, g99, g103] <;> rfl) (by simp -implicitDefEqProofs [H1, g20, g24, g86, g91, g95, g99, g103] <;> rfl) ?_
                              simp -implicitDefEqProofs [H1, g20, g24, g86, g91, g95, g99, g103]
                      · try (exfalso; revert g99; simp; done)
                        all_goals
                          have g99' := g99; first | simp only [dT, dF] at g99' | try simp at g99'
                          refine WpO.run tabOk 7 (by simp -implicitDefEqProofs [H1, g20, g24, g86, g91, g95, g99] <;> first | exact ⟨rfl, rfl⟩ | rfl) ?_
                          refine WpO.nil ?_
                          refine WpC.ret ?_
                          try simp only [blockQ, seqQ]
                          refine retD_i (by simp -implicitDefEqProofs [H1, g20, g24, g86, g91, g95, g99] <;> rfl) (by simp -implicitDefEqProofs [H1, g20, g24, g86, g91, g95, g99] <;> rfl) ?_
                          simp -implicitDefEqProofs [H1, g20, g24, g86, g91, g95, g99]
                  · try (exfalso; revert g95; simp; done)
                    all_goals
                      have g95' := g95; first | simp only [dT, dF] at g95' | try simp at g95'
                      refine WpO.run tabOk 11 (by simp -implicitDefEqProofs [H1, g20, g24, g86, g91, g95] <;> first | exact ⟨rfl, rfl⟩ | rfl) ?_
                      refine WpO.nil ?_
                      refine WpC.ret ?_
                      try simp only [blockQ, seqQ]
                      refine retD_i (by simp -implicitDefEqProofs [H1, g20, g24, g86, g91, g95] <;> rfl) (by simp -implicitDefEqProofs [H1, g20, g24, g86, g91, g95] <;> rfl) ?_
                      simp -implicitDefEqProofs [H1, g20, g24, g86, g91, g95]
              · try (exfalso; revert g91; simp; done)
                all_goals
                  have g91' := g91; first | simp only [dT, dF] at g91' | try simp at g91'
                  refine WpO.run tabOk 15 (by simp -implicitDefEqProofs [H1, g20, g24, g86, g91] <;> first | exact ⟨rfl, rfl⟩ | rfl) ?_
                  refine WpO.nil ?_
                  refine WpC.ret ?_
                  try simp only [blockQ, seqQ]
                  refine retD_i (by simp -implicitDefEqProofs [H1, g20, g24, g86, g91] <;> rfl) (by simp -implicitDefEqProofs [H1, g20, g24, g86, g91] <;> rfl) ?_
                  simp -implicitDefEqProofs [H1, g20, g24, g86, g91]
          · try (exfalso; revert g86; simp; done)
            all_goals
              have g86' := g86; first | simp only [dT, dF] at g86' | try simp at g86'
              refine WpO.run tabOk 20 (by simp -implicitDefEqProofs [H1, g20, g24, g86] <;> first | exact ⟨rfl, rfl⟩ | rfl) ?_
              refine WpO.nil ?_
              refine WpC.ret ?_
              try simp only [blockQ, seqQ]
              refine retD_i (by simp -implicitDefEqProofs [H1, g20, g24, g86] <;> rfl) (by simp -implicitDefEqProofs [H1, g20, g24, g86] <;> rfl) ?_
              simp -implicitDefEqProofs [H1, g20, g24, g86]
      · try (exfalso; revert g24; simp; done)
        all_goals
          have g24' := g24; first | simp only [dT, dF] at g24' | try simp at g24'
          refine WpO.run tabOk 1 (by simp -implicitDefEqProofs [H1, g20, g24] <;> first | exact ⟨rfl, rfl⟩ | rfl) ?_
          refine WpO.data (by simp) rfl (by simp -implicitDefEqProofs [H1, g20, g24] <;> rfl) (by simp -implicitDefEqProofs [H1, g20, g24] <;> rfl) (by simp -implicitDefEqProofs [H1, g20, g24] <;> rfl) call_11 (by simp) (hf) (by rfl) (by simp -implicitDefEqProofs [H1, g20, g24] <;> rfl) ?_
          refine WpO.data (by simp) rfl (by simp -implicitDefEqProofs [H1, g20, g24] <;> rfl) (by simp -implicitDefEqProofs [H1, g20, g24] <;> rfl) (by simp -implicitDefEqProofs [H1, g20, g24] <;> rfl) call_10 (by simp) (hg) (by rfl) (by simp -implicitDefEqProofs [H1, g20, g24] <;> rfl) ?_
          refine WpO.run tabOk 2 (by simp -implicitDefEqProofs [H1, g20, g24] <;> first | exact ⟨rfl, rfl⟩ | rfl) ?_
          refine WpO.nil ?_
          refine WpC.condF (by simp -implicitDefEqProofs [H1, g20, g24] <;> rfl) ?_
          refine WpC.skip ?_
          refine WpC.seq (WpC.drawn tabOk (by kernel_rfl) 0 (by simp) ?_)
          refine DrO.run (fz := []) 3 (by simp -implicitDefEqProofs [H1, g20, g24] <;> first | exact ⟨rfl, rfl, rfl, rfl⟩ | rfl) ?_
          refine DrO.run (fz := []) 3 (by simp -implicitDefEqProofs [H1, g20, g24] <;> first | exact ⟨rfl, rfl, rfl, rfl⟩ | rfl) ?_
          refine DrO.run (fz := []) 3 (by simp -implicitDefEqProofs [H1, g20, g24] <;> first | exact ⟨rfl, rfl, rfl, rfl⟩ | rfl) ?_
          refine DrO.run (fz := []) 1 (by simp -implicitDefEqProofs [H1, g20, g24] <;> first | exact ⟨rfl, rfl, rfl, rfl⟩ | rfl) ?_
          refine DrO.nil ⟨by kernel_rfl, ?_⟩
          refine qR (by simp -implicitDefEqProofs [H1, g20, g24] <;> rfl) ?_
          refine WpC.seq (WpC.drawn tabOk (by kernel_rfl) 0 (by simp) ?_)
          refine DrO.run (fz := []) 3 (by simp -implicitDefEqProofs [H1, g20, g24] <;> first | exact ⟨rfl, rfl, rfl, rfl⟩ | rfl) ?_
          refine DrO.run (fz := []) 3 (by simp -implicitDefEqProofs [H1, g20, g24] <;> first | exact ⟨rfl, rfl, rfl, rfl⟩ | rfl) ?_
          refine DrO.run (fz := []) 3 (by simp -implicitDefEqProofs [H1, g20, g24] <;> first | exact ⟨rfl, rfl, rfl, rfl⟩ | rfl) ?_
          refine DrO.run (fz := []) 3 (by simp -implicitDefEqProofs [H1, g20, g24] <;> first | exact ⟨rfl, rfl, rfl, rfl⟩ | rfl) ?_
          refine DrO.run (fz := []) 3 (by simp -implicitDefEqProofs [H1, g20, g24] <;> first | exact ⟨rfl, rfl, rfl, rfl⟩ | rfl) ?_
          refine DrO.run (fz := []) 1 (by simp -implicitDefEqProofs [H1, g20, g24] <;> first | exact ⟨rfl, rfl, rfl, rfl⟩ | rfl) ?_
          refine DrO.nil ⟨by kernel_rfl, ?_⟩
          refine qR (by simp -implicitDefEqProofs [H1, g20, g24] <;> rfl) ?_
          refine WpC.seq (WpC.drawn tabOk (by kernel_rfl) 5 (by simp) ?_)
          refine DrO.run (fz := []) 3 (by simp -implicitDefEqProofs [H1, g20, g24] <;> first | exact ⟨rfl, rfl, rfl, rfl⟩ | rfl) ?_
          refine DrO.run (fz := []) 3 (by simp -implicitDefEqProofs [H1, g20, g24] <;> first | exact ⟨rfl, rfl, rfl, rfl⟩ | rfl) ?_
          refine DrO.run (fz := []) 3 (by simp -implicitDefEqProofs [H1, g20, g24] <;> first | exact ⟨rfl, rfl, rfl, rfl⟩ | rfl) ?_
          refine DrO.run (fz := []) 3 (by simp -implicitDefEqProofs [H1, g20, g24] <;> first | exact ⟨rfl, rfl, rfl, rfl⟩ | rfl) ?_
          refine DrO.run (fz := []) 3 (by simp -implicitDefEqProofs [H1, g20, g24] <;> first | exact ⟨rfl, rfl, rfl, rfl⟩ | rfl) ?_
          refine DrO.run (fz := []) 1 (by simp -implicitDefEqProofs [H1, g20, g24] <;> first | exact ⟨rfl, rfl, rfl, rfl⟩ | rfl) ?_
          refine DrO.nil ⟨by kernel_rfl, ?_⟩
          refine WpC.seq ?_
          refine WpC.region ?_
          refine WpO.run tabOk 1 (by simp -implicitDefEqProofs [H1, g20, g24] <;> first | exact ⟨rfl, rfl⟩ | rfl) ?_
          refine WpO.lend (by simp) rfl (by simp -implicitDefEqProofs [H1, g20, g24] <;> rfl) (by simp -implicitDefEqProofs [H1, g20, g24] <;> rfl) (by simp -implicitDefEqProofs [H1, g20, g24] <;> rfl) call_9 (hw) (by rfl) (by simp -implicitDefEqProofs [H1, g20, g24] <;> rfl) ?_
          refine WpO.run tabOk 5 (by simp -implicitDefEqProofs [H1, g20, g24] <;> first | exact ⟨rfl, rfl⟩ | rfl) ?_
          refine WpO.nil ?_
          refine WpC.seq ?_
          refine WpC.region ?_
          refine WpO.run tabOk 1 (by simp -implicitDefEqProofs [H1, g20, g24] <;> first | exact ⟨rfl, rfl⟩ | rfl) ?_
          refine WpO.lend (by simp) rfl (by simp -implicitDefEqProofs [H1, g20, g24] <;> rfl) (by simp -implicitDefEqProofs [H1, g20, g24] <;> rfl) (by simp -implicitDefEqProofs [H1, g20, g24] <;> rfl) call_12 (r1) (by rfl) (by simp -implicitDefEqProofs [H1, g20, g24] <;> rfl) ?_
          refine WpO.run tabOk 5 (by simp -implicitDefEqProofs [H1, g20, g24] <;> first | exact ⟨rfl, rfl⟩ | rfl) ?_
          refine WpO.splitB 86 (by simp -implicitDefEqProofs [H1, g20, g24] <;> rfl) (by rfl) (fun g86 => ?_) (fun g86 => ?_)
          · try (exfalso; revert g86; simp; done)
            all_goals
              have g86' := g86; first | simp only [dT, dF] at g86' | try simp at g86'
              refine WpO.run tabOk 1 (by simp -implicitDefEqProofs [H1, g20, g24, g86] <;> first | exact ⟨rfl, rfl⟩ | rfl) ?_
              refine WpO.lend (by simp) rfl (by simp -implicitDefEqProofs [H1, g20, g24, g86] <;> rfl) (by simp -implicitDefEqProofs [H1, g20, g24, g86] <;> rfl) (by simp -implicitDefEqProofs [H1, g20, g24, g86] <;> rfl) call_12 (r2) (by rfl) (by simp -implicitDefEqProofs [H1, g20, g24, g86] <;> rfl) ?_
              refine WpO.run tabOk 3 (by simp -implicitDefEqProofs [H1, g20, g24, g86] <;> first | exact ⟨rfl, rfl⟩ | rfl) ?_
              refine WpO.splitB 91 (by simp -implicitDefEqProofs [H1, g20, g24, g86] <;> rfl) (by rfl) (fun g91 => ?_) (fun g91 => ?_)
              · try (exfalso; revert g91; simp; done)
                all_goals
                  have g91' := g91; first | simp only [dT, dF] at g91' | try simp at g91'
                  refine WpO.run tabOk 4 (by simp -implicitDefEqProofs [H1, g20, g24, g86, g91] <;> first | exact ⟨rfl, rfl⟩ | rfl) ?_
                  refine WpO.splitB 95 (by simp -implicitDefEqProofs [H1, g20, g24, g86, g91] <;> rfl) (by rfl) (fun g95 => ?_) (fun g95 => ?_)
                  · try (exfalso; revert g95; simp; done)
                    all_goals
                      have g95' := g95; first | simp only [dT, dF] at g95' | try simp at g95'
                      refine WpO.run tabOk 4 (by simp -implicitDefEqProofs [H1, g20, g24, g86, g91, g95] <;> first | exact ⟨rfl, rfl⟩ | rfl) ?_
                      refine WpO.splitB 99 (by simp -implicitDefEqProofs [H1, g20, g24, g86, g91, g95] <;> rfl) (by rfl) (fun g99 => ?_) (fun g99 => ?_)
                      · try (exfalso; revert g99; simp; done)
                        all_goals
                          have g99' := g99; first | simp only [dT, dF] at g99' | try simp at g99'
                          refine WpO.run tabOk 1 (by simp -implicitDefEqProofs [H1, g20, g24, g86, g91, g95, g99] <;> first | exact ⟨rfl, rfl⟩ | rfl) ?_
                          refine WpO.data (by simp) rfl (by simp -implicitDefEqProofs [H1, g20, g24, g86, g91, g95, g99] <;> rfl) (by simp -implicitDefEqProofs [H1, g20, g24, g86, g91, g95, g99] <;> rfl) (by simp -implicitDefEqProofs [H1, g20, g24, g86, g91, g95, g99] <;> rfl) call_12 (by simp) (r3) (by rfl) (by simp -implicitDefEqProofs [H1, g20, g24, g86, g91, g95, g99] <;> rfl) ?_
                          refine WpO.run tabOk 2 (by simp -implicitDefEqProofs [H1, g20, g24, g86, g91, g95, g99] <;> first | exact ⟨rfl, rfl⟩ | rfl) ?_
                          refine WpO.splitB 103 (by simp -implicitDefEqProofs [H1, g20, g24, g86, g91, g95, g99] <;> rfl) (by rfl) (fun g103 => ?_) (fun g103 => ?_)
                          · try (exfalso; revert g103; simp; done)
                            all_goals
                              have g103' := g103; first | simp only [dT, dF] at g103' | try simp at g103'
                              refine WpO.data (by simp) rfl (by simp -implicitDefEqProofs [H1, g20, g24, g86, g91, g95, g99, g103] <;> rfl) (by simp -implicitDefEqProofs [H1, g20, g24, g86, g91, g95, g99, g103] <;> rfl) (by simp -implicitDefEqProofs [H1, g20, g24, g86, g91, g95, g99, g103] <;> rfl) call_8 (by simp) (awake_ok) (by rfl) (by simp -implicitDefEqProofs [H1, g20, g24, g86, g91, g95, g99, g103] <;> rfl) ?_
                              refine WpO.run tabOk 2 (by simp -implicitDefEqProofs [H1, g20, g24, g86, g91, g95, g99, g103] <;> first | exact ⟨rfl, rfl⟩ | rfl) ?_
                              refine WpO.nil ?_
                              refine WpC.ret ?_
                              try simp only [blockQ, seqQ]
                              refine retD_i (by simp -implicitDefEqProofs [H1, g20, g24, g86, g91, g95, g99, g103] <;> rfl) (by simp -implicitDefEqProofs [H1, g20, g24, g86, g91, g95, g99, g103] <;> rfl) ?_
                              simp -implicitDefEqProofs [H1, g20, g24, g86, g91, g95, g99, g103]
                          · try (exfalso; revert g103; simp; done)
                            all_goals
                              have g103' := g103; first | simp only [dT, dF] at g103' | try simp at g103'
                              refine WpO.run tabOk 3 (by simp -implicitDefEqProofs [H1, g20, g24, g86, g91, g95, g99, g103] <;> first | exact ⟨rfl, rfl⟩ | rfl) ?_
                              refine WpO.nil ?_
                              refine WpC.ret ?_
                              try simp only [blockQ, seqQ]
                              refine retD_i (by simp -implicitDefEqProofs [H1, g20, g24, g86, g91, g95, g99, g103] <;> rfl) (by simp -implicitDefEqProofs [H1, g20, g24, g86, g91, g95, g99, g103] <;> rfl) ?_
                              simp -implicitDefEqProofs [H1, g20, g24, g86, g91, g95, g99, g103]
                      · try (exfalso; revert g99; simp; done)
                        all_goals
                          have g99' := g99; first | simp only [dT, dF] at g99' | try simp at g99'
                          refine WpO.run tabOk 7 (by simp -implicitDefEqProofs [H1, g20, g24, g86, g91, g95, g99] <;> first | exact ⟨rfl, rfl⟩ | rfl) ?_
                          refine WpO.nil ?_
                          refine WpC.ret ?_
                          try simp only [blockQ, seqQ]
                          refine retD_i (by simp -implicitDefEqProofs [H1, g20, g24, g86, g91, g95, g99] <;> rfl) (by simp -implicitDefEqProofs [H1, g20, g24, g86, g91, g95, g99] <;> rfl) ?_
                          simp -implicitDefEqProofs [H1, g20, g24, g86, g91, g95, g99]
                  · try (exfalso; revert g95; simp; done)
                    all_goals
                      have g95' := g95; first | simp only [dT, dF] at g95' | try simp at g95'
                      refine WpO.run tabOk 11 (by simp -implicitDefEqProofs [H1, g20, g24, g86, g91, g95] <;> first | exact ⟨rfl, rfl⟩ | rfl) ?_
                      refine WpO.nil ?_
                      refine WpC.ret ?_
                      try simp only [blockQ, seqQ]
                      refine retD_i (by simp -implicitDefEqProofs [H1, g20, g24, g86, g91, g95] <;> rfl) (by simp -implicitDefEqProofs [H1, g20, g24, g86, g91, g95] <;> rfl) ?_
                      simp -implicitDefEqProofs [H1, g20, g24, g86, g91, g95]
              · try (exfalso; revert g91; simp; done)
                all_goals
                  have g91' := g91; first | simp only [dT, dF] at g91' | try simp at g91'
                  refine WpO.run tabOk 15 (by simp -implicitDefEqProofs [H1, g20, g24, g86, g91] <;> first | exact ⟨rfl, rfl⟩ | rfl) ?_
                  refine WpO.nil ?_
                  refine WpC.ret ?_
                  try simp only [blockQ, seqQ]
                  refine retD_i (by simp -implicitDefEqProofs [H1, g20, g24, g86, g91] <;> rfl) (by simp -implicitDefEqProofs [H1, g20, g24, g86, g91] <;> rfl) ?_
                  simp -implicitDefEqProofs [H1, g20, g24, g86, g91]
          · try (exfalso; revert g86; simp; done)
            all_goals
              have g86' := g86; first | simp only [dT, dF] at g86' | try simp at g86'
              refine WpO.run tabOk 20 (by simp -implicitDefEqProofs [H1, g20, g24, g86] <;> first | exact ⟨rfl, rfl⟩ | rfl) ?_
              refine WpO.nil ?_
              refine WpC.ret ?_
              try simp only [blockQ, seqQ]
              refine retD_i (by simp -implicitDefEqProofs [H1, g20, g24, g86] <;> rfl) (by simp -implicitDefEqProofs [H1, g20, g24, g86] <;> rfl) ?_
              simp -implicitDefEqProofs [H1, g20, g24, g86]
theorem bankOrder_walk (per : Int) (l : List Pm) (i j : Int) (hi0 : 0 ≤ i) (hi1 : i ≤ 255) (hj0 : 0 ≤ j) (hj1 : j ≤ 255) (hl : l.length ≤ 9223372036854775807) : Gives Tryd.prog 7 [.d (encF per l), .d (.int .u8 i), .d (.int .u8 j)] (.d (.bool true)) := by
  by_cases h : 2 ≤ l.length ∧ l.length ≤ 100 ∧ rightB per l = true
  · exact order_yes per l i j hi0 hi1 hj0 hj1 h.1 h.2.1 h.2.2
  · by_cases h2 : l.length ≤ 100
    · exact order_no per l i j h2 fun h3 => h ⟨h3.1, h2, h3.2⟩
    · exact order_long per l i j (by omega)
end Go.Proofs.YtjlamhilnkadcaaDoor.Pay
