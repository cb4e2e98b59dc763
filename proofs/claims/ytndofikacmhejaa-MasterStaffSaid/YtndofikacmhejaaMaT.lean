/- Law MasterStaff. No statement of the seed is proved here. -/
import Derived.Test.YtndofikacmhejaaMaQ
import Derived.Test.YtndofikacmhejaaMaI
namespace Go.Proofs.Ytndofikacmhejaa.Pay
open Go Go.RowKit
set_option linter.unusedVariables false
set_option linter.unusedSimpArgs false

section
variable {m : List Per} {D : List Act}
/-- Who works in a period, as the document says. -/
theorem inv_at (h : Inv m D) {p : Per} (hp : p ∈ m) (when : Int) : (atS m p.id when).2 = 0 ↔ 0 ≤ atI D p.id when := by
  have hh := (h.hired p.id).2 ⟨p, hp, rfl⟩
  unfold atS atI
  rw [h.srt.find hp, h.frm p hp, h.gone p hp]
  simp only
  by_cases hc : when < p.hired ∨ (p.gone ≠ 0 ∧ p.gone ≤ when)
  · rw [if_pos (.inr hc), if_pos (.inr hc)]; simp
  · rw [if_neg (by intro q; rcases q with q | q; exact q rfl; exact hc q), if_neg (by intro q; rcases q with q | q; omega; exact hc q)]
    simp
theorem inv_at_neg (h : Inv m D) {id : Int} (hn : ∀ p ∈ m, p.id ≠ id) (when : Int) : atI D id when < 0 := by
  have : ¬ 0 ≤ hiredI D id := fun q => by
    obtain ⟨p, hp, he⟩ := (h.hired id).1 q
    exact hn p hp he
  unfold atI
  rw [if_pos (.inl (by omega))]; decide
theorem staff_srt (h : Inv m D) (when : Int) : (staffS m when).Pairwise (· < ·) := by
  unfold staffS
  exact (h.srt.1.sublist (List.filter_sublist.map _))
theorem staff_in (h : Inv m D) (when : Int) : ∀ id ∈ staffS m when, 0 ≤ atI D id when := by
  intro id hid
  obtain ⟨p, hp, rfl⟩ := List.mem_map.1 hid
  obtain ⟨h1, h2⟩ := List.mem_filter.1 hp
  exact (inv_at h h1 when).1 (of_decide_eq_true h2)
def manyAt (D : List Act) (when : Int) (a : Act) : Bool := decide (a.kind = 1) && decide (0 ≤ atI D a.id when)
theorem staff_len (h : Inv m D) (when : Int) : (staffS m when).length = D.countP (manyAt D when) := by
  have e1 : D.countP (manyAt D when) = ((D.filter isH).map Act.id).countP fun id => decide (0 ≤ atI D id when) := by
    rw [List.countP_map, List.countP_filter]
    congr 1
    funext a
    simp [manyAt, isH, Bool.and_comm]
  rw [e1, h.perm.countP_eq, List.countP_map]
  unfold staffS
  rw [List.length_map, ← List.countP_eq_length_filter]
  refine List.countP_congr fun p hp => ?_
  simp only [Function.comp, decide_eq_true_eq]
  exact inv_at h hp when
end

theorem has_bool {g t : Nat} {ds : List D} {a b : Nat} {z : List D} (h : HasT tab (g + 1) t ds) (ht : tab t = some ⟨.bool, a, b, z⟩) : ∃ v, ds = [.bool v] := by
  unfold HasT at h
  rw [ht] at h
  exact h
theorem i64_in {n : Int} (h : IntKind.i64.min ≤ n ∧ n ≤ IntKind.i64.max) : -9223372036854775808 ≤ n ∧ n ≤ 9223372036854775807 := h
theorem has_act {g : Nat} {ds : List D} (h : HasT tab (g + 3) 90 ds) : ∃ a : Act, ds = a.cs ∧ a.in64 := by
  unfold HasT at h
  simp only [tab_90, Fs] at h
  obtain ⟨_, _, rfl, h1, _, _, rfl, h2, _, _, rfl, h3, _, _, rfl, h4, _, _, rfl, h5, _, _, rfl, h6, rfl⟩ := h
  obtain ⟨x1, rfl, _⟩ := has_num h1 tab_3
  obtain ⟨x2, rfl, i2⟩ := has_num h2 tab_3
  obtain ⟨x3, rfl, _⟩ := has_num h3 tab_3
  obtain ⟨x4, rfl, _⟩ := has_num h4 tab_3
  unfold HasT at h5 h6
  simp only [tab_61, tab_78, Fs] at h5 h6
  obtain ⟨_, _, rfl, k1, _, _, rfl, k2, _, _, rfl, k3, _, _, rfl, k4, _, _, rfl, k5, rfl⟩ := h5
  obtain ⟨_, _, rfl, l1, _, _, rfl, l2, _, _, rfl, l3, _, _, rfl, l4, rfl⟩ := h6
  obtain ⟨y1, rfl, _⟩ := has_num k1 tab_3
  obtain ⟨y2, rfl, _⟩ := has_num k2 tab_3
  obtain ⟨y3, rfl, _⟩ := has_num k3 tab_3
  obtain ⟨y4, rfl, _⟩ := has_num k4 tab_3
  obtain ⟨y5, rfl⟩ := has_bool k5 tab_4
  obtain ⟨z1, rfl, _⟩ := has_num l1 tab_3
  obtain ⟨z2, rfl, _⟩ := has_num l2 tab_3
  obtain ⟨z3, rfl, _⟩ := has_num l3 tab_3
  obtain ⟨z4, rfl, _⟩ := has_num l4 tab_3
  exact ⟨⟨x1, x2, x3, x4, y1, y2, y3, y4, y5, z1, z2, z3, z4⟩, rfl, i64_in i2⟩
theorem has_acts {g : Nat} {ds : List D} (h : HasT tab (g + 4) 80 ds) : ∃ l : List Act, ds = [encAs l] ∧ (∀ a ∈ l, a.in64) ∧ l.length ≤ maxLen := by
  unfold HasT at h
  simp only [tab_80, tab_90] at h
  obtain ⟨xs, rfl, hl, hx⟩ := h
  have key : ∀ {xs : List D}, (∀ x ∈ xs, ∃ a : Act, x = a.enc ∧ a.in64) → ∃ l : List Act, xs = l.map Act.enc ∧ ∀ a ∈ l, a.in64 := by
    intro xs
    induction xs with
    | nil => intro _; exact ⟨[], rfl, by simp⟩
    | cons x xs ih =>
      intro h
      obtain ⟨a, rfl, h1⟩ := h x (by simp)
      obtain ⟨l, rfl, h2⟩ := ih fun y hy => h y (by simp [hy])
      exact ⟨a :: l, rfl, by simpa using ⟨h1, h2⟩⟩
  obtain ⟨l, rfl, h2⟩ := key fun x hx' => by
    obtain ⟨ys, h1, rfl⟩ := hx x hx'
    obtain ⟨a, rfl, h3⟩ := has_act h1
    exact ⟨a, rfl, h3⟩
  exact ⟨l, rfl, h2, by simpa using hl⟩

set_option maxHeartbeats 20000000 in
theorem staffLaw_ok (l : List Act) (ha : ∀ a ∈ l, a.in64) (when : Int) (hl : l.length ≤ 9223372036854775807) : Gives Try.prog 10 [.d (encAs l), .d (dI when)] (.d (.bool true)) := by
  obtain ⟨hI, hD⟩ := runS_inv ha
  have hdo : l.length ≤ 120 → Gives Try.prog 27 _ _ := fun h => doAll_ok l h ha
  obtain ⟨m, hm⟩ : ∃ m, (runS l).1 = m := ⟨_, rfl⟩
  obtain ⟨D, hDD⟩ : ∃ D, (runS l).2 = D := ⟨_, rfl⟩
  rw [hm, hDD] at hdo
  rw [hm, hDD] at hI
  rw [hDD] at hD
  have hst := staff_srt hI when
  have hin := staff_in hI when
  have hsl := staff_len hI when
  refine Gives.enter tabOk Try.func10 rfl (by show 2 ≤ 82; decide) ?_
  simp only [Try.f10]
  refine WpC.seq (WpC.ops tabOk (r := []) (by simp -implicitDefEqProofs <;> rfl) rfl ?_)
  refine WpC.seq ?_
  refine WpC.seq (WpC.ops tabOk (r := []) (by simp -implicitDefEqProofs <;> rfl) rfl ?_)
  refine WpC.condR (by simp -implicitDefEqProofs <;> rfl) (by rfl) (fun c16 => ?_) (fun c16 => ?_)
  · have c16' := c16; first | simp only [dT, dF] at c16' | try simp at c16'
    refine WpC.seq ?_
    refine WpC.region ?_
    refine WpO.data (by simp) rfl (by simp -implicitDefEqProofs [c16] <;> rfl) (by simp -implicitDefEqProofs [c16] <;> rfl) (by simp -implicitDefEqProofs [c16] <;> rfl) call_19 (by simp) (awake13_ok) (by rfl) (by simp -implicitDefEqProofs [c16] <;> rfl) ?_
    refine WpO.run tabOk 1 (by simp -implicitDefEqProofs [c16] <;> first | exact ⟨rfl, rfl⟩ | rfl) ?_
    refine WpO.nil ?_
    refine WpC.ret ?_
    try simp only [blockQ, seqQ]
    refine retD_i (by simp -implicitDefEqProofs [c16] <;> rfl) (by simp -implicitDefEqProofs [c16] <;> rfl) ?_
    simp -implicitDefEqProofs [c16]
  · have c16' := c16; first | simp only [dT, dF] at c16' | try simp at c16'
    have h120 : l.length ≤ 120 := by simp at c16; omega
    have hdo := hdo h120
    have hsf := staff_ok m when (by have := hI.len.2; omega) (fun p hp => ⟨by obtain ⟨r, rs, h0, _⟩ := (hI.good p hp).hd; rw [h0]; simp, by have := hI.size p hp; omega⟩)
    have hat : ∀ id, Gives Try.prog 28 [.d (encAs D), .d (dI id), .d (dI when)] (.d (dI (atI D id when))) := fun id => atR_ok D id when (by omega)
    obtain ⟨S, hS⟩ : ∃ S, staffS m when = S := ⟨_, rfl⟩
    rw [hS] at hst hin hsl hsf
    obtain ⟨f, hf⟩ : ∃ f : Act → Bool, manyAt D when = f := ⟨_, rfl⟩
    have hff : ∀ x : Act, (decide (x.kind = 1) && decide (0 ≤ atI D x.id when)) = f x := fun x => by rw [← hf]; rfl
    rw [hf] at hsl
    have hSl : S.length ≤ 120 := by rw [hsl]; exact Nat.le_trans List.countP_le_length (by omega)
    refine WpC.skip ?_
    refine WpC.seq ?_
    refine WpC.region ?_
    refine WpO.run tabOk 1 (by simp -implicitDefEqProofs [c16] <;> first | exact ⟨rfl, rfl⟩ | rfl) ?_
    refine WpO.data (by simp) rfl (by simp -implicitDefEqProofs [c16] <;> rfl) (by simp -implicitDefEqProofs [c16] <;> rfl) (by simp -implicitDefEqProofs [c16] <;> rfl) call_27 (by simp) (hdo) (by rfl) (by simp -implicitDefEqProofs [c16] <;> rfl) ?_
    refine WpO.run tabOk 8 (by simp -implicitDefEqProofs [c16] <;> first | exact ⟨rfl, rfl⟩ | rfl) ?_
    refine WpO.nil ?_
    refine WpC.seq ?_
    refine WpC.seq (WpC.ops tabOk (r := []) (by simp -implicitDefEqProofs [c16] <;> rfl) rfl ?_)
    refine WpC.condF (by simp -implicitDefEqProofs [c16] <;> rfl) ?_
    refine WpC.skip ?_
    refine WpC.seq ?_
    refine WpC.region ?_
    refine WpO.run tabOk 2 (by simp -implicitDefEqProofs [c16] <;> first | exact ⟨rfl, rfl⟩ | rfl) ?_
    refine WpO.data (by simp) rfl (by simp -implicitDefEqProofs [c16] <;> rfl) (by simp -implicitDefEqProofs [c16] <;> rfl) (by simp -implicitDefEqProofs [c16] <;> rfl) call_24 (by simp) (hsf) (by rfl) (by simp -implicitDefEqProofs [c16] <;> rfl) ?_
    refine WpO.run tabOk 1 (by simp -implicitDefEqProofs [c16] <;> first | exact ⟨rfl, rfl⟩ | rfl) ?_
    refine WpO.nil ?_
    refine WpC.seq (WpC.ops tabOk (r := []) (by simp -implicitDefEqProofs [c16] <;> rfl) rfl ?_)
    refine WpC.seq ?_
    refine WpC.seq (WpC.ops tabOk (r := []) (by simp -implicitDefEqProofs [c16] <;> rfl) rfl ?_)
    refine WpC.block ?_
    refine WpC.loopK [1, 6, 8, 29, 30] [9, 31] (D.length) (() : Unit) (fun k _ => [(9, .d (dI ((D.take k).countP f : Nat))), (31, .d (.int .i64 k))]) (fun k _ => [.cells 57 [.d (encPes m)]]) (fun k _ => True) (by simp -implicitDefEqProofs [c16] <;> rfl) (Gh.cut' [9, 31, 1, 6, 8, 29, 30] 1 (by simp -implicitDefEqProofs [c16]) (by simp -implicitDefEqProofs [c16]) rfl (by simp) (by simp) (by simp)) (by simp) ?_
    rintro k ⟨⟩ hk hi
    simp only [List.cons_append, List.nil_append]
    refine WpC.seq (WpC.ops tabOk (r := []) (by simp -implicitDefEqProofs [c16] <;> rfl) rfl ?_)
    refine WpC.seq (WpC.condD (k < D.length) (by simp -implicitDefEqProofs [c16] <;> omega) (fun hlt => ?_) (fun hge => ?_))
    · refine WpC.skip ?_
      have hst' := countP_take f hlt
      obtain ⟨x, hx⟩ : ∃ x, D[k] = x := ⟨_, rfl⟩
      have hw : IntKind.i64.wrap ((k : Int) + 1) = k + 1 := wrapI (by omega) (by omega)
      obtain ⟨cn, hcn⟩ : ∃ cn, (D.take k).countP f = cn := ⟨_, rfl⟩
      have hcl : cn ≤ k := by rw [← hcn]; exact Nat.le_trans List.countP_le_length (by simp; omega)
      have hw2 : IntKind.i64.wrap ((cn : Int) + 1) = cn + 1 := wrapI (by omega) (by omega)
      rw [hx, hcn] at hst'
      refine WpC.seq ?_
      refine WpC.block ?_
      refine WpC.seq (WpC.ops tabOk (r := []) (by simp -implicitDefEqProofs [c16, hlt, hx, hw, hw2, hcn] <;> rfl) rfl ?_)
      refine WpC.seq ?_
      refine WpC.val 45 (.d (.bool (f x))) ?_ ?_
      · refine WpC.region ?_
        refine WpO.run tabOk 4 (by simp -implicitDefEqProofs [c16, hlt, hx, hw, hw2, hcn] <;> first | exact ⟨rfl, rfl⟩ | rfl) ?_
        refine WpO.splitB 38 (by simp -implicitDefEqProofs [c16, hlt, hx, hw, hw2, hcn] <;> rfl) (by rfl) (fun g38 => ?_) (fun g38 => ?_)
        · try (exfalso; revert g38; simp; done)
          all_goals
            have g38' := g38; first | simp only [dT, dF] at g38' | try simp at g38'
            refine WpO.run tabOk 4 (by simp -implicitDefEqProofs [c16, hlt, hx, hw, hw2, hcn, g38] <;> first | exact ⟨rfl, rfl⟩ | rfl) ?_
            refine WpO.data (by simp) rfl (by simp -implicitDefEqProofs [c16, hlt, hx, hw, hw2, hcn, g38] <;> rfl) (by simp -implicitDefEqProofs [c16, hlt, hx, hw, hw2, hcn, g38] <;> rfl) (by simp -implicitDefEqProofs [c16, hlt, hx, hw, hw2, hcn, g38] <;> rfl) call_28 (by simp) (hat x.id) (by rfl) (by simp -implicitDefEqProofs [c16, hlt, hx, hw, hw2, hcn, g38] <;> rfl) ?_
            refine WpO.run tabOk 2 (by simp -implicitDefEqProofs [c16, hlt, hx, hw, hw2, hcn, g38] <;> first | exact ⟨rfl, rfl⟩ | rfl) ?_
            refine WpO.nil ?_
            refine ⟨rfl, Gh.only 45 12 ?_ (by first | rfl | simp -implicitDefEqProofs [c16, hlt, hx, hw, hw2, hcn, g38]) (by rfl)⟩
            simp -implicitDefEqProofs [c16, hlt, hx, hw, hw2, hcn, g38, g38', ← hff]
        · try (exfalso; revert g38; simp; done)
          all_goals
            have g38' := g38; first | simp only [dT, dF] at g38' | try simp at g38'
            refine WpO.run tabOk 7 (by simp -implicitDefEqProofs [c16, hlt, hx, hw, hw2, hcn, g38] <;> first | exact ⟨rfl, rfl⟩ | rfl) ?_
            refine WpO.nil ?_
            refine ⟨rfl, Gh.only 45 12 ?_ (by first | rfl | simp -implicitDefEqProofs [c16, hlt, hx, hw, hw2, hcn, g38]) (by rfl)⟩
            simp -implicitDefEqProofs [c16, hlt, hx, hw, hw2, hcn, g38, g38', ← hff]
      refine WpC.condR (by simp -implicitDefEqProofs [c16, hlt, hx, hw, hw2, hcn] <;> rfl) (by rfl) (fun c45 => ?_) (fun c45 => ?_)
      · have c45' := c45; first | simp only [dT, dF] at c45' | try simp at c45'
        refine WpC.ops tabOk (r := []) (by simp -implicitDefEqProofs [c16, hlt, hx, hw, hw2, hcn, c45] <;> rfl) rfl ?_
        refine WpC.ops tabOk (r := []) (by simp -implicitDefEqProofs [c16, hlt, hx, hw, hw2, hcn, c45] <;> rfl) rfl ?_
        exact ⟨hlt, (), trivial, Gh.cut' [9, 31, 1, 6, 8, 29, 30] 1 (by simp -implicitDefEqProofs [c16, hlt, hx, hw, hw2, hcn, c45, c16', c45', hst']) (by simp -implicitDefEqProofs [c16, hlt, hx, hw, hw2, hcn, c45, c16', c45', hst']) rfl (by simp) (by simp) (by simp)⟩
      · have c45' := c45; first | simp only [dT, dF] at c45' | try simp at c45'
        refine WpC.skip ?_
        refine WpC.ops tabOk (r := []) (by simp -implicitDefEqProofs [c16, hlt, hx, hw, hw2, hcn, c45] <;> rfl) rfl ?_
        exact ⟨hlt, (), trivial, Gh.cut' [9, 31, 1, 6, 8, 29, 30] 1 (by simp -implicitDefEqProofs [c16, hlt, hx, hw, hw2, hcn, c45, c16', c45', hst']) (by simp -implicitDefEqProofs [c16, hlt, hx, hw, hw2, hcn, c45, c16', c45', hst']) rfl (by simp) (by simp) (by simp)⟩
    · refine WpC.exit ?_
      have hkn : k = D.length := by omega
      subst hkn
      refine WpC.seq ?_
      refine WpC.seq (WpC.ops tabOk (r := []) (by simp -implicitDefEqProofs [c16] <;> rfl) rfl ?_)
      refine WpC.block ?_
      refine WpC.loopK [1, 6, 8, 9, 49, 50] [51] (S.length) (() : Unit) (fun k _ => [(51, .d (.int .i64 k))]) (fun k _ => [.cells 57 [.d (encPes m)]]) (fun k _ => True) (by simp -implicitDefEqProofs [c16] <;> rfl) (Gh.cut' [51, 1, 6, 8, 9, 49, 50] 1 (by simp -implicitDefEqProofs [c16]) (by simp -implicitDefEqProofs [c16]) rfl (by simp) (by simp) (by simp)) (by simp) ?_
      rintro k ⟨⟩ hk hi
      simp only [List.cons_append, List.nil_append]
      refine WpC.seq (WpC.ops tabOk (r := []) (by simp -implicitDefEqProofs [c16] <;> rfl) rfl ?_)
      refine WpC.seq (WpC.condD (k < S.length) (by simp -implicitDefEqProofs [c16] <;> omega) (fun hlt => ?_) (fun hge => ?_))
      · refine WpC.skip ?_
        obtain ⟨x, hx⟩ : ∃ x, S[k] = x := ⟨_, rfl⟩
        have hw : IntKind.i64.wrap ((k : Int) + 1) = k + 1 := wrapI (by omega) (by omega)
        have hxi := hin x (hx ▸ List.getElem_mem hlt)
        have hxn : ¬ atI D x when < 0 := by omega
        refine WpC.seq ?_
        refine WpC.block ?_
        refine WpC.seq (WpC.ops tabOk (r := []) (by simp -implicitDefEqProofs [c16, hlt, hx, hw, hxn] <;> rfl) rfl ?_)
        refine WpC.seq ?_
        refine WpC.val 73 (.d (.bool (false))) ?_ ?_
        · refine WpC.region ?_
          refine WpO.run tabOk 3 (by simp -implicitDefEqProofs [c16, hlt, hx, hw, hxn] <;> first | exact ⟨rfl, rfl⟩ | rfl) ?_
          refine WpO.splitB 58 (by simp -implicitDefEqProofs [c16, hlt, hx, hw, hxn] <;> rfl) (by rfl) (fun g58 => ?_) (fun g58 => ?_)
          · try (exfalso; revert g58; simp; done)
            all_goals
              have g58' := g58; first | simp only [dT, dF] at g58' | try simp at g58'
              have hk0 : 0 < k := by simpa using g58
              obtain ⟨j, hj⟩ : ∃ j, k = j + 1 := ⟨k - 1, by omega⟩
              subst hj
              obtain ⟨y, hy⟩ : ∃ y, S[j] = y := ⟨_, rfl⟩
              have hyx : y < x := by
                have := List.pairwise_iff_getElem.1 hst j (j + 1) (by omega) hlt (by omega)
                rw [hy, hx] at this; exact this
              have hw3 : IntKind.i64.wrap (((j + 1 : Nat) : Int) - 1) = j := by rw [wrapI (by omega) (by omega)]; omega
              have hw4 : IntKind.i64.wrap ((j : Int) + 1 - 1) = j := by rw [wrapI (by omega) (by omega)]; omega
              have hw5 : IntKind.i64.wrap (j : Int) = j := wrapI (by omega) (by omega)
              have hjl : j < S.length := by omega
              have hnx : ¬ x ≤ y := by omega
              refine WpO.run tabOk 9 (by simp -implicitDefEqProofs [c16, hlt, hx, hw, hxn, g58, hy, hw3, hw4, hw5, hjl, hnx] <;> first | exact ⟨rfl, rfl⟩ | rfl) ?_
              refine WpO.splitB 67 (by simp -implicitDefEqProofs [c16, hlt, hx, hw, hxn, g58, hy, hw3, hw4, hw5, hjl, hnx] <;> rfl) (by rfl) (fun g67 => ?_) (fun g67 => ?_)
              · try (exfalso; revert g67; simp; done)
                all_goals
                  have g67' := g67; first | simp only [dT, dF] at g67' | try simp at g67'
                  refine WpO.run tabOk 6 (by simp -implicitDefEqProofs [c16, hlt, hx, hw, hxn, g58, hy, hw3, hw4, hw5, hjl, hnx, g67] <;> first | exact ⟨rfl, rfl⟩ | rfl) ?_
                  refine WpO.nil ?_
                  refine ⟨rfl, Gh.only 73 20 ?_ (by first | rfl | simp -implicitDefEqProofs [c16, hlt, hx, hw, hxn, g58, hy, hw3, hw4, hw5, hjl, hnx, g67]) (by rfl)⟩
                  simp -implicitDefEqProofs [c16, hlt, hx, hw, hxn, g58, hy, hw3, hw4, hw5, hjl, hnx, g67, g58', g67']
              · try (exfalso; revert g67; simp; done)
                all_goals
                  have g67' := g67; first | simp only [dT, dF] at g67' | try simp at g67'
                  refine WpO.run tabOk 3 (by simp -implicitDefEqProofs [c16, hlt, hx, hw, hxn, g58, hy, hw3, hw4, hw5, hjl, hnx, g67] <;> first | exact ⟨rfl, rfl⟩ | rfl) ?_
                  refine WpO.data (by simp) rfl (by simp -implicitDefEqProofs [c16, hlt, hx, hw, hxn, g58, hy, hw3, hw4, hw5, hjl, hnx, g67] <;> rfl) (by simp -implicitDefEqProofs [c16, hlt, hx, hw, hxn, g58, hy, hw3, hw4, hw5, hjl, hnx, g67] <;> rfl) (by simp -implicitDefEqProofs [c16, hlt, hx, hw, hxn, g58, hy, hw3, hw4, hw5, hjl, hnx, g67] <;> rfl) call_28 (by simp) (hat x) (by rfl) (by simp -implicitDefEqProofs [c16, hlt, hx, hw, hxn, g58, hy, hw3, hw4, hw5, hjl, hnx, g67] <;> rfl) ?_
                  refine WpO.run tabOk 2 (by simp -implicitDefEqProofs [c16, hlt, hx, hw, hxn, g58, hy, hw3, hw4, hw5, hjl, hnx, g67] <;> first | exact ⟨rfl, rfl⟩ | rfl) ?_
                  refine WpO.nil ?_
                  refine ⟨rfl, Gh.only 73 20 ?_ (by first | rfl | simp -implicitDefEqProofs [c16, hlt, hx, hw, hxn, g58, hy, hw3, hw4, hw5, hjl, hnx, g67]) (by rfl)⟩
                  simp -implicitDefEqProofs [c16, hlt, hx, hw, hxn, g58, hy, hw3, hw4, hw5, hjl, hnx, g67, g58', g67']
          · try (exfalso; revert g58; simp; done)
            all_goals
              have g58' := g58; first | simp only [dT, dF] at g58' | try simp at g58'
              refine WpO.run tabOk 12 (by simp -implicitDefEqProofs [c16, hlt, hx, hw, hxn, g58] <;> first | exact ⟨rfl, rfl⟩ | rfl) ?_
              refine WpO.data (by simp) rfl (by simp -implicitDefEqProofs [c16, hlt, hx, hw, hxn, g58] <;> rfl) (by simp -implicitDefEqProofs [c16, hlt, hx, hw, hxn, g58] <;> rfl) (by simp -implicitDefEqProofs [c16, hlt, hx, hw, hxn, g58] <;> rfl) call_28 (by simp) (hat x) (by rfl) (by simp -implicitDefEqProofs [c16, hlt, hx, hw, hxn, g58] <;> rfl) ?_
              refine WpO.run tabOk 2 (by simp -implicitDefEqProofs [c16, hlt, hx, hw, hxn, g58] <;> first | exact ⟨rfl, rfl⟩ | rfl) ?_
              refine WpO.nil ?_
              refine ⟨rfl, Gh.only 73 19 ?_ (by first | rfl | simp -implicitDefEqProofs [c16, hlt, hx, hw, hxn, g58]) (by rfl)⟩
              simp -implicitDefEqProofs [c16, hlt, hx, hw, hxn, g58, g58']
        refine WpC.condF (by simp -implicitDefEqProofs [c16, hlt, hx, hw, hxn] <;> rfl) ?_
        refine WpC.skip ?_
        refine WpC.ops tabOk (r := []) (by simp -implicitDefEqProofs [c16, hlt, hx, hw, hxn] <;> rfl) rfl ?_
        exact ⟨hlt, (), trivial, Gh.cut' [51, 1, 6, 8, 9, 49, 50] 1 (by simp -implicitDefEqProofs [c16, hlt, hx, hw, hxn, c16']) (by simp -implicitDefEqProofs [c16, hlt, hx, hw, hxn, c16']) rfl (by simp) (by simp) (by simp)⟩
      · refine WpC.exit ?_
        have hkn : k = S.length := by omega
        subst hkn
        refine WpC.seq ?_
        have hsl2 : (S.length : Int) = (D.countP f : Nat) := by rw [hsl]
        refine WpC.val 4 (.d (.bool (true))) ?_ ?_
        · refine WpC.region ?_
          refine WpO.run tabOk 5 (by simp -implicitDefEqProofs [c16, hsl2] <;> first | exact ⟨rfl, rfl⟩ | rfl) ?_
          refine WpO.splitB 79 (by simp -implicitDefEqProofs [c16, hsl2] <;> rfl) (by rfl) (fun g79 => ?_) (fun g79 => ?_)
          · try (exfalso; revert g79; simp; done)
            all_goals
              have g79' := g79; first | simp only [dT, dF] at g79' | try simp at g79'
              refine WpO.data (by simp) rfl (by simp -implicitDefEqProofs [c16, hsl2, g79] <;> rfl) (by simp -implicitDefEqProofs [c16, hsl2, g79] <;> rfl) (by simp -implicitDefEqProofs [c16, hsl2, g79] <;> rfl) call_19 (by simp) (awake13_ok) (by rfl) (by simp -implicitDefEqProofs [c16, hsl2, g79] <;> rfl) ?_
              refine WpO.run tabOk 2 (by simp -implicitDefEqProofs [c16, hsl2, g79] <;> first | exact ⟨rfl, rfl⟩ | rfl) ?_
              refine WpO.nil ?_
              refine ⟨rfl, Gh.only 4 9 ?_ (by first | rfl | simp -implicitDefEqProofs [c16, hsl2, g79]) (by rfl)⟩
              simp -implicitDefEqProofs [c16, hsl2, g79, g79']
          · try (exfalso; revert g79; simp; done)
            all_goals
              have g79' := g79; first | simp only [dT, dF] at g79' | try simp at g79'
              refine WpO.run tabOk 3 (by simp -implicitDefEqProofs [c16, hsl2, g79] <;> first | exact ⟨rfl, rfl⟩ | rfl) ?_
              refine WpO.nil ?_
              refine ⟨rfl, Gh.only 4 9 ?_ (by first | rfl | simp -implicitDefEqProofs [c16, hsl2, g79]) (by rfl)⟩
              simp -implicitDefEqProofs [c16, hsl2, g79, g79']
        refine WpC.ret ?_
        try simp only [blockQ, seqQ]
        refine retD_i (by simp -implicitDefEqProofs [c16, hsl2] <;> rfl) (by simp -implicitDefEqProofs [c16, hsl2] <;> rfl) ?_
        simp -implicitDefEqProofs [c16, hsl2]
section
variable {w : World}
theorem masterStaff_row {e0 e1 : List D} {v0 v1 : Value} {i0 i1 : TI} (y0 : HasT tab 8 80 e0) (y1 : HasT tab 8 3 e1) (t0 : some i0 = tab 80) (t1 : some i1 = tab 3)
    (z0 : DRel w (lt w) (elemD i0 e0) v0) (z1 : DRel w (lt w) (elemD i1 e1) v1) :
    Calls Try.prog 10 #[v0, v1] w fun e w' => e = .returned (.bool true) ∧ Below w.heap.size w w' := by
  rw [tab_80] at t0; cases t0
  rw [tab_3] at t1; cases t1
  obtain ⟨l, rfl, ha, hl⟩ := has_acts y0
  obtain ⟨n, rfl, hn⟩ := has_num y1 tab_3
  refine WpF.law (staffLaw_ok l ha n (by simpa [maxLen] using hl)) (fun r S h => h.1) (vs := [v0, v1]) ?_
  simp only [VRelL, VRel]
  exact ⟨v0, _, rfl, z0, v1, _, rfl, z1, rfl⟩
end
end Go.Proofs.Ytndofikacmhejaa.Pay
