/- The texts GaN, one behind the other. No statement of the seed is proved here. -/
import Derived.Test.YtaobnhenjldjeaaMgK
/- The document's answer on what orders are served; law GarnishExact. No statement of the seed is proved here. -/
namespace Go.Proofs.Ytaobnhenjldjeaa.Pay
open Go Go.RowKit
set_option linter.unusedVariables false
set_option linter.unusedSimpArgs false
set_option linter.unusedSectionVars false

theorem refWant_ok (o : Ord) : Gives Try.prog 20 [.d o.enc] (.d (dI o.want)) := by
  have hw : o.want = if o.claim < o.bal then o.claim else o.bal := by
    show min o.claim o.bal = _
    split <;> omega
  rw [hw]
  refine Gives.enter tabOk Try.func20 rfl (by show 1 ≤ 12; decide) ?_
  simp only [Try.f20]
  refine WpC.seq (WpC.ops tabOk (r := []) (by simp -implicitDefEqProofs <;> rfl) rfl ?_)
  refine WpC.seq ?_
  refine WpC.seq (WpC.ops tabOk (r := []) (by simp -implicitDefEqProofs <;> rfl) rfl ?_)
  refine WpC.condD (o.claim < o.bal) (by simp -implicitDefEqProofs) (fun d7 => ?_) (fun d7 => ?_)
  · refine WpC.seq (WpC.ops tabOk (r := []) (by simp -implicitDefEqProofs [d7] <;> rfl) rfl ?_)
    refine WpC.ret ?_
    try simp only [blockQ, seqQ]
    refine retD_i (by simp -implicitDefEqProofs [d7] <;> rfl) (by simp -implicitDefEqProofs [d7] <;> rfl) ?_
    simp [d7]
  · refine WpC.skip ?_
    refine WpC.seq (WpC.ops tabOk (r := []) (by simp -implicitDefEqProofs [d7] <;> rfl) rfl ?_)
    refine WpC.ret ?_
    try simp only [blockQ, seqQ]
    refine retD_i (by simp -implicitDefEqProofs [d7] <;> rfl) (by simp -implicitDefEqProofs [d7] <;> rfl) ?_
    simp [d7]
def lowO (x : Ord) : Bool := decide (x.claim < 0 ∨ x.bal < 0)
def bigO (x : Ord) : Bool := decide (1125899906842624 < x.claim ∨ 1125899906842624 < x.bal)
theorem may_ok (net prot : Int) (l : List Ord) (hl : l.length ≤ 1000000) : Gives Try.prog 12 [.d (dI net), .d (dI prot), .d (encOs l)] (.d (dI (chkE net prot l))) := by
  have hck : chkE net prot l = if 8 < l.length then 9 else if (decide (prot < 0) || l.any lowO) = true then 1 else if (decide ((1125899906842624 < net ∨ net < -1125899906842624) ∨ 1125899906842624 < prot) || l.any bigO) = true then 3 else 0 := by
    unfold chkE
    by_cases h8 : 8 < l.length
    · rw [if_pos h8, if_pos h8]
    · rw [if_neg h8, if_neg h8]
      have e1 : (prot < 0 ∨ (l.any fun x => decide (x.claim < 0 ∨ x.bal < 0)) = true) = ((decide (prot < 0) || l.any lowO) = true) := by
        rw [Bool.or_eq_true, decide_eq_true_iff]; rfl
      have e2 : ((1125899906842624 < net ∨ net < -1125899906842624) ∨ 1125899906842624 < prot ∨ (l.any fun x => decide (1125899906842624 < x.claim ∨ 1125899906842624 < x.bal)) = true) = ((decide ((1125899906842624 < net ∨ net < -1125899906842624) ∨ 1125899906842624 < prot) || l.any bigO) = true) := by
        rw [Bool.or_eq_true, decide_eq_true_iff]
        exact propext ⟨fun h => by rcases h with h | h | h; exact .inl (.inl h); exact .inl (.inr h); exact .inr h, fun h => by rcases h with (h | h) | h; exact .inl h; exact .inr (.inl h); exact .inr (.inr h)⟩
      simp only [e1, e2]
  rw [hck]
  refine Gives.enter tabOk Try.func12 rfl (by show 3 ≤ 67; decide) ?_
  simp only [Try.f12]
  refine WpC.seq (WpC.ops tabOk (r := []) (by simp -implicitDefEqProofs <;> rfl) rfl ?_)
  refine WpC.seq ?_
  refine WpC.seq (WpC.ops tabOk (r := []) (by simp -implicitDefEqProofs <;> rfl) rfl ?_)
  refine WpC.condD ((8 : Int) < l.length) (by simp -implicitDefEqProofs) (fun d12 => ?_) (fun d12 => ?_)
  · refine WpC.seq (WpC.ops tabOk (r := []) (by simp -implicitDefEqProofs [d12] <;> rfl) rfl ?_)
    refine WpC.ret ?_
    try simp only [blockQ, seqQ]
    refine retD_i (by simp -implicitDefEqProofs [d12] <;> rfl) (by simp -implicitDefEqProofs [d12] <;> rfl) ?_
    simp [show 8 < l.length by omega]
  · have h8 : ¬ 8 < l.length := by omega
    rw [if_neg h8]
    obtain ⟨z1, hz1⟩ : ∃ b, decide (prot < 0) = b := ⟨_, rfl⟩
    obtain ⟨z2, hz2⟩ : ∃ b, decide ((1125899906842624 < net ∨ net < -1125899906842624) ∨ 1125899906842624 < prot) = b := ⟨_, rfl⟩
    rw [hz1, hz2]
    refine WpC.skip ?_
    refine WpC.seq ?_
    refine WpC.join ⟨[(2, .d (encOs l)), (7, .d (.bool z1)), (8, .d (.bool z2))], [], 67, 0⟩ ?_ ?_
    · refine WpC.region ?_
      refine WpO.run tabOk 5 (by simp -implicitDefEqProofs [d12] <;> first | exact ⟨rfl, rfl⟩ | rfl) ?_
      refine WpO.splitB 17 (by simp -implicitDefEqProofs [d12] <;> rfl) (by rfl) (fun g17 => ?_) (fun g17 => ?_)
      · have g17' := g17; first | simp only [dT, dF] at g17' | try simp at g17'
        refine WpO.run tabOk 9 (by simp -implicitDefEqProofs [d12, g17] <;> first | exact ⟨rfl, rfl⟩ | rfl) ?_
        refine WpO.nil ?_
        exact ⟨rfl, Gh.cut' [2, 7, 8] 0 (by simp -implicitDefEqProofs [d12, g17, g17', ← hz1, ← hz2]) (by simp -implicitDefEqProofs [d12, g17, g17', ← hz1, ← hz2]) rfl (by simp) (by simp) (by simp)⟩
      · have g17' := g17; first | simp only [dT, dF] at g17' | try simp at g17'
        refine WpO.run tabOk 4 (by simp -implicitDefEqProofs [d12, g17] <;> first | exact ⟨rfl, rfl⟩ | rfl) ?_
        refine WpO.splitB 21 (by simp -implicitDefEqProofs [d12, g17] <;> rfl) (by rfl) (fun g21 => ?_) (fun g21 => ?_)
        · have g21' := g21; first | simp only [dT, dF] at g21' | try simp at g21'
          refine WpO.run tabOk 5 (by simp -implicitDefEqProofs [d12, g17, g21] <;> first | exact ⟨rfl, rfl⟩ | rfl) ?_
          refine WpO.nil ?_
          exact ⟨rfl, Gh.cut' [2, 7, 8] 0 (by simp -implicitDefEqProofs [d12, g17, g21, g17', g21', ← hz1, ← hz2]) (by simp -implicitDefEqProofs [d12, g17, g21, g17', g21', ← hz1, ← hz2]) rfl (by simp) (by simp) (by simp)⟩
        · have g21' := g21; first | simp only [dT, dF] at g21' | try simp at g21'
          refine WpO.run tabOk 5 (by simp -implicitDefEqProofs [d12, g17, g21] <;> first | exact ⟨rfl, rfl⟩ | rfl) ?_
          refine WpO.nil ?_
          exact ⟨rfl, Gh.cut' [2, 7, 8] 0 (by simp -implicitDefEqProofs [d12, g17, g21, g17', g21', ← hz1, ← hz2]) (by simp -implicitDefEqProofs [d12, g17, g21, g17', g21', ← hz1, ← hz2]) rfl (by simp) (by simp) (by simp)⟩
    · refine WpC.seq ?_
      refine WpC.seq (WpC.ops tabOk (r := []) (by simp -implicitDefEqProofs [d12] <;> rfl) rfl ?_)
      refine WpC.block ?_
      refine WpC.loopK [2] [7, 8, 9] (l.length) (() : Unit) (fun k _ => [(7, .d (.bool (z1 || (l.take k).any lowO))), (8, .d (.bool (z2 || (l.take k).any bigO))), (9, .d (.int .i64 k))]) (fun k _ => []) (fun k _ => True) (by simp -implicitDefEqProofs [d12] <;> rfl) (Gh.cut' [7, 8, 9, 2] 0 (by simp -implicitDefEqProofs [d12]) (by simp -implicitDefEqProofs [d12]) rfl (by simp) (by simp) (by simp)) (by simp) ?_
      rintro k ⟨⟩ hk hi
      simp only [List.cons_append, List.nil_append]
      refine WpC.seq ?_
      refine WpC.seq (WpC.ops tabOk (r := []) (by simp -implicitDefEqProofs [d12] <;> rfl) rfl ?_)
      refine WpC.condD (k < l.length) (by simp -implicitDefEqProofs [d12] <;> omega) (fun hlt => ?_) (fun hge => ?_)
      · refine WpC.skip ?_
        obtain ⟨x, hx⟩ : ∃ x, l[k] = x := ⟨_, rfl⟩
        have hs1 := any_take lowO hlt
        have hs2 := any_take bigO hlt
        rw [hx] at hs1 hs2
        have hs1' : (z1 || (l.take (k + 1)).any lowO) = ((z1 || (l.take k).any lowO) || lowO x) := by rw [hs1, Bool.or_assoc]
        have hs2' : (z2 || (l.take (k + 1)).any bigO) = ((z2 || (l.take k).any bigO) || bigO x) := by rw [hs2, Bool.or_assoc]
        obtain ⟨b1, hb1⟩ : ∃ b, (z1 || (l.take k).any lowO) = b := ⟨_, rfl⟩
        obtain ⟨b2, hb2⟩ : ∃ b, (z2 || (l.take k).any bigO) = b := ⟨_, rfl⟩
        rw [hb1] at hs1' ⊢
        rw [hb2] at hs2' ⊢
        have hkw : IntKind.i64.wrap ((k : Int) + 1) = k + 1 := wrapI (by omega) (by omega)
        refine WpC.seq ?_
        refine WpC.block ?_
        refine WpC.seq ?_
        refine WpC.val 7 (.d (.bool (b1 || decide (x.claim < 0 ∨ x.bal < 0)))) ?_ ?_
        · refine WpC.region ?_
          refine WpO.run tabOk 2 (by simp -implicitDefEqProofs [d12, hlt, hx, hkw] <;> first | exact ⟨rfl, rfl⟩ | rfl) ?_
          refine WpO.splitB 32 (by simp -implicitDefEqProofs [d12, hlt, hx, hkw] <;> rfl) (by rfl) (fun g32 => ?_) (fun g32 => ?_)
          · have g32' := g32; first | simp only [dT, dF] at g32' | try simp at g32'
            refine WpO.run tabOk 16 (by simp -implicitDefEqProofs [d12, hlt, hx, hkw, g32] <;> first | exact ⟨rfl, rfl⟩ | rfl) ?_
            refine WpO.nil ?_
            refine ⟨rfl, Gh.only 7 19 ?_ (by first | rfl | simp -implicitDefEqProofs [d12, hlt, hx, hkw, g32]) (by rfl)⟩
            simp -implicitDefEqProofs [d12, hlt, hx, hkw, g32, g32']
          · have g32' := g32; first | simp only [dT, dF] at g32' | try simp at g32'
            refine WpO.run tabOk 8 (by simp -implicitDefEqProofs [d12, hlt, hx, hkw, g32] <;> first | exact ⟨rfl, rfl⟩ | rfl) ?_
            refine WpO.splitB 40 (by simp -implicitDefEqProofs [d12, hlt, hx, hkw, g32] <;> rfl) (by rfl) (fun g40 => ?_) (fun g40 => ?_)
            · have g40' := g40; first | simp only [dT, dF] at g40' | try simp at g40'
              refine WpO.run tabOk 8 (by simp -implicitDefEqProofs [d12, hlt, hx, hkw, g32, g40] <;> first | exact ⟨rfl, rfl⟩ | rfl) ?_
              refine WpO.nil ?_
              refine ⟨rfl, Gh.only 7 20 ?_ (by first | rfl | simp -implicitDefEqProofs [d12, hlt, hx, hkw, g32, g40]) (by rfl)⟩
              simp -implicitDefEqProofs [d12, hlt, hx, hkw, g32, g40, g32', g40']
            · have g40' := g40; first | simp only [dT, dF] at g40' | try simp at g40'
              refine WpO.run tabOk 8 (by simp -implicitDefEqProofs [d12, hlt, hx, hkw, g32, g40] <;> first | exact ⟨rfl, rfl⟩ | rfl) ?_
              refine WpO.nil ?_
              refine ⟨rfl, Gh.only 7 20 ?_ (by first | rfl | simp -implicitDefEqProofs [d12, hlt, hx, hkw, g32, g40]) (by rfl)⟩
              simp -implicitDefEqProofs [d12, hlt, hx, hkw, g32, g40, g32', g40']
        refine WpC.val 8 (.d (.bool (b2 || decide (1125899906842624 < x.claim ∨ 1125899906842624 < x.bal)))) ?_ ?_
        · refine WpC.region ?_
          refine WpO.run tabOk 2 (by simp -implicitDefEqProofs [d12, hlt, hx, hkw] <;> first | exact ⟨rfl, rfl⟩ | rfl) ?_
          refine WpO.splitB 49 (by simp -implicitDefEqProofs [d12, hlt, hx, hkw] <;> rfl) (by rfl) (fun g49 => ?_) (fun g49 => ?_)
          · have g49' := g49; first | simp only [dT, dF] at g49' | try simp at g49'
            refine WpO.run tabOk 16 (by simp -implicitDefEqProofs [d12, hlt, hx, hkw, g49] <;> first | exact ⟨rfl, rfl⟩ | rfl) ?_
            refine WpO.nil ?_
            refine ⟨rfl, Gh.only 8 19 ?_ (by first | rfl | simp -implicitDefEqProofs [d12, hlt, hx, hkw, g49]) (by rfl)⟩
            simp -implicitDefEqProofs [d12, hlt, hx, hkw, g49, g49']
          · have g49' := g49; first | simp only [dT, dF] at g49' | try simp at g49'
            refine WpO.run tabOk 8 (by simp -implicitDefEqProofs [d12, hlt, hx, hkw, g49] <;> first | exact ⟨rfl, rfl⟩ | rfl) ?_
            refine WpO.splitB 57 (by simp -implicitDefEqProofs [d12, hlt, hx, hkw, g49] <;> rfl) (by rfl) (fun g57 => ?_) (fun g57 => ?_)
            · have g57' := g57; first | simp only [dT, dF] at g57' | try simp at g57'
              refine WpO.run tabOk 8 (by simp -implicitDefEqProofs [d12, hlt, hx, hkw, g49, g57] <;> first | exact ⟨rfl, rfl⟩ | rfl) ?_
              refine WpO.nil ?_
              refine ⟨rfl, Gh.only 8 20 ?_ (by first | rfl | simp -implicitDefEqProofs [d12, hlt, hx, hkw, g49, g57]) (by rfl)⟩
              simp -implicitDefEqProofs [d12, hlt, hx, hkw, g49, g57, g49', g57']
            · have g57' := g57; first | simp only [dT, dF] at g57' | try simp at g57'
              refine WpO.run tabOk 8 (by simp -implicitDefEqProofs [d12, hlt, hx, hkw, g49, g57] <;> first | exact ⟨rfl, rfl⟩ | rfl) ?_
              refine WpO.nil ?_
              refine ⟨rfl, Gh.only 8 20 ?_ (by first | rfl | simp -implicitDefEqProofs [d12, hlt, hx, hkw, g49, g57]) (by rfl)⟩
              simp -implicitDefEqProofs [d12, hlt, hx, hkw, g49, g57, g49', g57']
        refine WpC.ops tabOk (r := []) (by simp -implicitDefEqProofs [d12, hlt, hx, hkw] <;> rfl) rfl ?_
        exact ⟨hlt, (), trivial, Gh.cut' [7, 8, 9, 2] 0 (by simp -implicitDefEqProofs [d12, hlt, hx, hkw, hs1', hs2', lowO, bigO]) (by simp) rfl (by simp) (by simp) (by simp)⟩
      · refine WpC.exit ?_
        have hkn : k = l.length := by omega
        subst hkn
        rw [List.take_of_length_le (Nat.le_refl _)]
        obtain ⟨b1, hb1⟩ : ∃ b, (z1 || l.any lowO) = b := ⟨_, rfl⟩
        obtain ⟨b2, hb2⟩ : ∃ b, (z2 || l.any bigO) = b := ⟨_, rfl⟩
        rw [hb1, hb2]
        refine WpC.seq ?_
        refine WpC.seq (WpC.ops tabOk (r := []) (by simp -implicitDefEqProofs [d12] <;> rfl) rfl ?_)
        refine WpC.condD (b1 = true) (by simp -implicitDefEqProofs [d12]) (fun d65 => ?_) (fun d65 => ?_)
        · refine WpC.seq (WpC.ops tabOk (r := []) (by simp -implicitDefEqProofs [d12, d65] <;> rfl) rfl ?_)
          refine WpC.ret ?_
          try simp only [blockQ, seqQ]
          refine retD_i (by simp -implicitDefEqProofs [d12, d65] <;> rfl) (by simp -implicitDefEqProofs [d12, d65] <;> rfl) ?_
          simp -implicitDefEqProofs [d12, d65]
        · refine WpC.skip ?_
          refine WpC.seq ?_
          refine WpC.seq (WpC.ops tabOk (r := []) (by simp -implicitDefEqProofs [d12, d65] <;> rfl) rfl ?_)
          refine WpC.condD (b2 = true) (by simp -implicitDefEqProofs [d12, d65]) (fun d66 => ?_) (fun d66 => ?_)
          · refine WpC.seq (WpC.ops tabOk (r := []) (by simp -implicitDefEqProofs [d12, d65, d66] <;> rfl) rfl ?_)
            refine WpC.ret ?_
            try simp only [blockQ, seqQ]
            refine retD_i (by simp -implicitDefEqProofs [d12, d65, d66] <;> rfl) (by simp -implicitDefEqProofs [d12, d65, d66] <;> rfl) ?_
            simp -implicitDefEqProofs [d12, d65, d66]
          · refine WpC.skip ?_
            refine WpC.seq (WpC.ops tabOk (r := []) (by simp -implicitDefEqProofs [d12, d65, d66] <;> rfl) rfl ?_)
            refine WpC.ret ?_
            try simp only [blockQ, seqQ]
            refine retD_i (by simp -implicitDefEqProofs [d12, d65, d66] <;> rfl) (by simp -implicitDefEqProofs [d12, d65, d66] <;> rfl) ?_
            simp -implicitDefEqProofs [d12, d65, d66]
theorem at0_eq {x : Int} (h : 0 ≤ x) : at0 x = x := if_neg (by omega)
theorem at0_neg {x : Int} (h : x ≤ 0) : at0 x = 0 := by unfold at0; split <;> omega
/-- As the document tells it. -/
theorem serve_cases {D : Int} {P W : Nat → Int} {n i : Nat} (g : GoodN (at0 D) P W n) (hi : i < n) {t s : Int} (ht : t = D - lowS P W n (P i)) (hs : s = (wN P W n (P i)).sum) :
    (s ≤ t → outN (at0 D) P W n i = W i) ∧ (¬ s ≤ t → t ≤ 0 → outN (at0 D) P W n i = 0) ∧ (¬ s ≤ t → ¬ t ≤ 0 → spE t (wN P W n (P i)) = 0 ∧ (spS t (wN P W n (P i)))[posN P i]? = some (outN (at0 D) P W n i)) := by
  have hl := low_pos g (P i)
  have hsp := (wN_ok g (P i)).2.2
  have hth : thN (at0 D) P W n (P i) = at0 t ∨ (D < 0 ∧ thN (at0 D) P W n (P i) = 0) := by
    unfold thN
    by_cases hD : 0 ≤ D
    · rw [at0_eq hD, ht]; exact .inl rfl
    · rw [at0_neg (x := D) (by omega), at0_neg (by omega)]; exact .inr ⟨by omega, rfl⟩
  refine ⟨fun h => ?_, fun h h0 => ?_, fun h h0 => ?_⟩
  · refine outN_all g hi ?_
    rcases hth with e | ⟨e1, e2⟩
    · rw [e, at0_eq (by omega)]; omega
    · omega
  · have h1 := outN_le g hi
    have h2 := outN_none g hi (by
      rcases hth with e | ⟨e1, e2⟩
      · rw [e, at0_neg h0]; omega
      · omega)
    omega
  · have e : thN (at0 D) P W n (P i) = t := by
      rcases hth with e | ⟨e1, e2⟩
      · rw [e, at0_eq (by omega)]
      · omega
    have hlt : thN (at0 D) P W n (P i) < (wN P W n (P i)).sum := by rw [e]; omega
    have h1 := pN_spE g hlt
    rw [e] at h1
    refine ⟨h1, ?_⟩
    obtain ⟨h2, h3, e1, e2⟩ := outN_at g hi
    have hp : pN (at0 D) P W n (P i) = spS t (wN P W n (P i)) := by unfold pN; rw [if_pos hlt, e]
    rw [← hp, List.getElem?_eq_getElem h2, e1]
def meN (P : Nat → Int) (i k : Nat) : Nat := if k ≤ i then 0 else posN P i
set_option maxHeartbeats 40000000 in
theorem refServe_ok (net prot : Int) (l : List Ord) (h0 : chkE net prot l = 0) : Gives Try.prog 14 [.d (dI net), .d (dI prot), .d (encOs l)] (.d (.list 1 ((outI net prot l).map dI))) := by
  obtain ⟨g, hall, hnet, hprot⟩ := chk_good h0
  unfold outI
  rw [if_pos h0, ← rowF_map]
  have hcs := fun i hi t s ht hs => serve_cases (i := i) g hi (t := t) (s := s) ht hs
  have hPi : ∀ i (h : i < l.length), priF l i = l[i].pri := fun i h => by unfold priF; rw [List.getElem?_eq_getElem h]; rfl
  have hWi : ∀ i (h : i < l.length), wantF l i = l[i].want := fun i h => by unfold wantF; rw [List.getElem?_eq_getElem h]; rfl
  have hlo := fun p => low_all g p
  obtain ⟨O, hO⟩ : ∃ O, outN (at0 (net - prot)) (priF l) (wantF l) l.length = O := ⟨_, rfl⟩
  obtain ⟨P, hP⟩ : ∃ P, priF l = P := ⟨_, rfl⟩
  obtain ⟨W, hW⟩ : ∃ W, wantF l = W := ⟨_, rfl⟩
  obtain ⟨n, hn⟩ : ∃ n, l.length = n := ⟨_, rfl⟩
  simp only [hO] at hcs
  rw [hO]
  rw [hP, hW, hn] at g
  simp only [hP, hW, hn] at hcs hPi hWi
  rw [hn]
  have hn8 := g.n8
  have hgk : ∀ k, k ≤ n → GoodN (at0 (net - prot)) P W k := fun k hk => ⟨g.A0, by omega, fun i hi => g.w0 i (by omega), fun i hi => g.wb i (by omega)⟩
  have w0 : IntKind.i64.wrap (net - prot) = net - prot := wrapI (by omega) (by omega)
  have hz0 : rowF O 0 = [] := rfl
  refine Gives.enter tabOk Try.func14 rfl (by show 3 ≤ 106; decide) ?_
  simp only [Try.f14]
  refine WpC.seq (WpC.ops tabOk (r := []) (by simp -implicitDefEqProofs [hn, w0, hz0] <;> rfl) rfl ?_)
  refine WpC.seq (WpC.ops tabOk (r := []) (by simp -implicitDefEqProofs [hn, w0, hz0] <;> rfl) rfl ?_)
  refine WpC.seq ?_
  refine WpC.gh (Gh.nilArr 3 1 (t := 7) (by simp) (by simp)) ?_
  refine WpC.seq (WpC.ops tabOk (r := []) (by simp -implicitDefEqProofs [hn, w0, hz0] <;> rfl) rfl ?_)
  refine WpC.block ?_
  refine WpC.loopK [0, 1, 2] [7, 8] (n) (() : Unit) (fun k _ => [(7, .sl 0 k), (8, .d (.int .i64 k))]) (fun k _ => [.arr 3 1 (rowF O k)]) (fun k _ => True) (by simp -implicitDefEqProofs [hn, w0, hz0] <;> rfl) (Gh.cut' [7, 8, 0, 1, 2] 1 (by simp -implicitDefEqProofs [hn, w0, hz0]) (by simp -implicitDefEqProofs [hn, w0, hz0]) rfl (by simp) (by simp) (by simp)) (by simp) ?_
  rintro k ⟨⟩ hk hi
  simp only [List.cons_append, List.nil_append]
  refine WpC.seq ?_
  refine WpC.seq (WpC.ops tabOk (r := []) (by simp -implicitDefEqProofs [hn, w0, hz0] <;> rfl) rfl ?_)
  refine WpC.condD (k < n) (by simp -implicitDefEqProofs [hn, w0, hz0] <;> omega) (fun hlt => ?_) (fun hge => ?_)
  · refine WpC.skip ?_
    have hi0 := hi
    obtain ⟨i, rfl⟩ : ∃ i, i = k := ⟨k, rfl⟩
    have hin : i < n := hlt
    have hil : i < l.length := by omega
    obtain ⟨y, hy⟩ : ∃ y, l[i] = y := ⟨_, rfl⟩
    have hPy := hPi i hin
    have hWy := hWi i hin
    simp only [hy] at hPy hWy
    have hkw : IntKind.i64.wrap ((i : Int) + 1) = i + 1 := wrapI (by omega) (by omega)
    have hks : i ≤ 8589934591 := by omega
    have hro := rowF_snoc O i
    have hci := hcs i hin _ _ rfl rfl
    obtain ⟨p, hp⟩ : ∃ p, y.pri = p := ⟨_, rfl⟩
    rw [hPy, hp] at hci
    have hwy := refWant_ok y
    have z1 : (wN P W 0 p).sum = 0 := rfl
    have z2 : lowS P W 0 p = 0 := rfl
    have z3 : meN P i 0 = 0 := rfl
    have z4 : atN P 0 p = [] := rfl
    have z5 : wN P W 0 p = [] := rfl
    refine WpC.seq ?_
    refine WpC.block ?_
    refine WpC.seq (WpC.ops tabOk (r := []) (by simp -implicitDefEqProofs [hn, w0, hz0, hlt, hin, hil, hy, hkw, hks, hp, z1, z2, z3, z4, z5] <;> rfl) rfl ?_)
    refine WpC.seq (WpC.ops tabOk (r := []) (by simp -implicitDefEqProofs [hn, w0, hz0, hlt, hin, hil, hy, hkw, hks, hp, z1, z2, z3, z4, z5] <;> rfl) rfl ?_)
    refine WpC.gh (Gh.nilArr 3 1 (t := 10) (by simp) (by simp)) ?_
    refine WpC.seq (WpC.ops tabOk (r := []) (by simp -implicitDefEqProofs [hn, w0, hz0, hlt, hin, hil, hy, hkw, hks, hp, z1, z2, z3, z4, z5] <;> rfl) rfl ?_)
    refine WpC.seq ?_
    refine WpC.seq (WpC.ops tabOk (r := []) (by simp -implicitDefEqProofs [hn, w0, hz0, hlt, hin, hil, hy, hkw, hks, hp, z1, z2, z3, z4, z5] <;> rfl) rfl ?_)
    refine WpC.block ?_
    refine WpC.loopK [0, 1, 2, 7, 8] [9, 10, 11, 12, 13] (n) (() : Unit) (fun k _ => [(9, .d (dI (net - prot - lowS P W k p))), (10, .sl 1 (atN P k p).length), (11, .d (dI (wN P W k p).sum)), (12, .d (dI (meN P i k : Nat))), (13, .d (.int .i64 k))]) (fun k _ => [.arr 3 1 (rowF O i), .arr 3 1 ((wN P W k p).map dI)]) (fun k _ => True) (by simp -implicitDefEqProofs [hn, w0, hz0, hlt, hin, hil, hy, hkw, hks, hp, z1, z2, z3, z4, z5] <;> rfl) (Gh.cut' [9, 10, 11, 12, 13, 0, 1, 2, 7, 8] 2 (by simp -implicitDefEqProofs [hn, w0, hz0, hlt, hin, hil, hy, hkw, hks, hp, z1, z2, z3, z4, z5]) (by simp -implicitDefEqProofs [hn, w0, hz0, hlt, hin, hil, hy, hkw, hks, hp, z1, z2, z3, z4, z5]) rfl (by simp) (by simp) (by simp)) (by simp) ?_
    rintro k ⟨⟩ hk hi
    simp only [List.cons_append, List.nil_append]
    refine WpC.seq ?_
    refine WpC.seq (WpC.ops tabOk (r := []) (by simp -implicitDefEqProofs [hn, w0, hz0, hlt, hin, hil, hy, hkw, hks, hp, z1, z2, z3, z4, z5] <;> rfl) rfl ?_)
    refine WpC.condD (k < n) (by simp -implicitDefEqProofs [hn, w0, hz0, hlt, hin, hil, hy, hkw, hks, hp, z1, z2, z3, z4, z5] <;> omega) (fun hlt => ?_) (fun hge => ?_)
    · refine WpC.skip ?_
      have hkl : k < l.length := by omega
      obtain ⟨x, hx⟩ : ∃ x, l[k] = x := ⟨_, rfl⟩
      have hPk := hPi k hlt
      have hWk := hWi k hlt
      simp only [hx] at hPk hWk
      have hwx := refWant_ok x
      have hjw : IntKind.i64.wrap ((k : Int) + 1) = k + 1 := wrapI (by omega) (by omega)
      have g1 := hgk k (by omega)
      have g2 := hgk (k + 1) (by omega)
      have s1 := wN_ok g1 p
      have s2 := wN_ok g2 p
      have l1 := low_all g1 p
      have l2 := low_all g2 p
      have lp1 := low_pos g1 p
      have lp2 := low_pos g2 p
      have hla := wN_len (P := P) (W := W) (n := k) p
      have hat := atN_len (P := P) (n := k) p
      have st1 : lowS P W (k + 1) p = lowS P W k p + (if x.pri < p then x.want else 0) := by unfold lowS; rw [sumF_step, hPk, hWk]
      have st2 : wN P W (k + 1) p = if x.pri = p then wN P W k p ++ [x.want] else wN P W k p := by rw [wN_step, hPk, hWk]
      have st3 : (atN P (k + 1) p).length = if x.pri = p then (atN P k p).length + 1 else (atN P k p).length := by rw [atN_step, hPk]; split <;> simp
      have st4 : meN P i (k + 1) = if k = i then (atN P k p).length else meN P i k := by
        unfold meN
        by_cases e : k = i
        · rw [if_neg (by omega), if_pos e]
          unfold posN
          rw [hPy, hp, e]
        · rw [if_neg e]
          by_cases e2 : k + 1 ≤ i
          · rw [if_pos e2, if_pos (by omega)]
          · rw [if_neg e2, if_neg (by omega)]
      have hSb : sumF W (k + 1) ≤ 9007199254740992 := by
        have := sumF_big (b := 1125899906842624) (by decide) (f := W) (n := k + 1) fun i hi => g2.wb i hi
        omega
      have hme : ∀ q : Prop, q → q := fun q h => h
      obtain ⟨Lk, hLk⟩ : ∃ z, lowS P W k p = z := ⟨_, rfl⟩
      obtain ⟨Wk, hWk2⟩ : ∃ z, wN P W k p = z := ⟨_, rfl⟩
      obtain ⟨ck, hck⟩ : ∃ z, (atN P k p).length = z := ⟨_, rfl⟩
      obtain ⟨mk, hmk⟩ : ∃ z, meN P i k = z := ⟨_, rfl⟩
      rw [hLk] at st1 lp1
      rw [hWk2] at st2 s1 hla
      rw [hck] at st3 st4 hla hat
      rw [hmk] at st4
      have hcs2 : ck ≤ 8589934591 := by omega
      have hxw : 0 ≤ x.want ∧ x.want ≤ 1125899906842624 := by rw [← hWk]; exact ⟨g2.w0 k (by omega), g2.wb k (by omega)⟩
      refine WpC.seq ?_
      refine WpC.block ?_
      refine WpC.seq ?_
      refine WpC.seq (WpC.drawn tabOk (by kernel_rfl) 0 (by simp) ?_)
      refine DrO.run (fz := []) 3 (by simp -implicitDefEqProofs [hn, w0, hz0, hlt, hin, hil, hy, hkw, hks, hp, z1, z2, z3, z4, z5, hlt, hkl, hx, hjw, hLk, hWk2, hck, hmk, hla, hcs2] <;> first | exact ⟨rfl, rfl, rfl, rfl⟩ | rfl) ?_
      refine DrO.run (fz := []) 3 (by simp -implicitDefEqProofs [hn, w0, hz0, hlt, hin, hil, hy, hkw, hks, hp, z1, z2, z3, z4, z5, hlt, hkl, hx, hjw, hLk, hWk2, hck, hmk, hla, hcs2] <;> first | exact ⟨rfl, rfl, rfl, rfl⟩ | rfl) ?_
      refine DrO.run (fz := []) 3 (by simp -implicitDefEqProofs [hn, w0, hz0, hlt, hin, hil, hy, hkw, hks, hp, z1, z2, z3, z4, z5, hlt, hkl, hx, hjw, hLk, hWk2, hck, hmk, hla, hcs2] <;> first | exact ⟨rfl, rfl, rfl, rfl⟩ | rfl) ?_
      refine DrO.run (fz := []) 2 (by simp -implicitDefEqProofs [hn, w0, hz0, hlt, hin, hil, hy, hkw, hks, hp, z1, z2, z3, z4, z5, hlt, hkl, hx, hjw, hLk, hWk2, hck, hmk, hla, hcs2] <;> first | exact ⟨rfl, rfl, rfl, rfl⟩ | rfl) ?_
      refine DrO.nil ⟨by kernel_rfl, ?_⟩
      refine WpC.join ⟨[(0, .d (dI net)), (1, .d (dI prot)), (2, .d (encOs l)), (7, .sl 0 i), (8, .d (dI i)), (9, .d (dI (net - prot - lowS P W (k + 1) p))), (10, .sl 1 ck), (11, .d (dI Wk.sum)), (12, .d (dI mk)), (13, .d (dI k))], [.arr 3 1 (rowF O i), .arr 3 1 (Wk.map dI)], 106, 0⟩ ?_ ?_
      · refine WpC.condD (x.pri < p) (by simp -implicitDefEqProofs [hn, w0, hz0, hlt, hin, hil, hy, hkw, hks, hp, z1, z2, z3, z4, z5, hlt, hkl, hx, hjw, hLk, hWk2, hck, hmk, hla, hcs2]) (fun d39 => ?_) (fun d39 => ?_)
        · have st1' : lowS P W (k + 1) p = Lk + x.want := by rw [st1, if_pos d39]
          have hw1 : IntKind.i64.wrap (net - prot - Lk - x.want) = net - prot - lowS P W (k + 1) p := by rw [wrapI (by omega) (by omega)]; omega
          refine WpC.region ?_
          refine WpO.run tabOk 5 (by simp -implicitDefEqProofs [hn, w0, hz0, hlt, hin, hil, hy, hkw, hks, hp, z1, z2, z3, z4, z5, hlt, hkl, hx, hjw, hLk, hWk2, hck, hmk, hla, hcs2, d39, hw1] <;> first | exact ⟨rfl, rfl⟩ | rfl) ?_
          refine WpO.data (by simp) rfl (by simp -implicitDefEqProofs [hn, w0, hz0, hlt, hin, hil, hy, hkw, hks, hp, z1, z2, z3, z4, z5, hlt, hkl, hx, hjw, hLk, hWk2, hck, hmk, hla, hcs2, d39, hw1] <;> rfl) (by simp -implicitDefEqProofs [hn, w0, hz0, hlt, hin, hil, hy, hkw, hks, hp, z1, z2, z3, z4, z5, hlt, hkl, hx, hjw, hLk, hWk2, hck, hmk, hla, hcs2, d39, hw1] <;> rfl) (by simp -implicitDefEqProofs [hn, w0, hz0, hlt, hin, hil, hy, hkw, hks, hp, z1, z2, z3, z4, z5, hlt, hkl, hx, hjw, hLk, hWk2, hck, hmk, hla, hcs2, d39, hw1] <;> rfl) call_20 (by simp) (hwx) (by rfl) (by simp -implicitDefEqProofs [hn, w0, hz0, hlt, hin, hil, hy, hkw, hks, hp, z1, z2, z3, z4, z5, hlt, hkl, hx, hjw, hLk, hWk2, hck, hmk, hla, hcs2, d39, hw1] <;> rfl) ?_
          refine WpO.run tabOk 2 (by simp -implicitDefEqProofs [hn, w0, hz0, hlt, hin, hil, hy, hkw, hks, hp, z1, z2, z3, z4, z5, hlt, hkl, hx, hjw, hLk, hWk2, hck, hmk, hla, hcs2, d39, hw1] <;> first | exact ⟨rfl, rfl⟩ | rfl) ?_
          refine WpO.nil ?_
          exact ⟨rfl, Gh.cut' [0, 1, 2, 7, 8, 9, 10, 11, 12, 13] 2 (by simp -implicitDefEqProofs [hn, w0, hz0, hlt, hin, hil, hy, hkw, hks, hp, z1, z2, z3, z4, z5, hlt, hkl, hx, hjw, hLk, hWk2, hck, hmk, hla, hcs2, d39, hw1, st1']) (by simp -implicitDefEqProofs [hn, w0, hz0, hlt, hin, hil, hy, hkw, hks, hp, z1, z2, z3, z4, z5, hlt, hkl, hx, hjw, hLk, hWk2, hck, hmk, hla, hcs2, d39, hw1, st1']) rfl (by simp) (by simp) (by simp)⟩
        · have st1' : lowS P W (k + 1) p = Lk := by rw [st1, if_neg d39]; omega
          refine WpC.skip ?_
          exact ⟨rfl, Gh.cut' [0, 1, 2, 7, 8, 9, 10, 11, 12, 13] 2 (by simp -implicitDefEqProofs [hn, w0, hz0, hlt, hin, hil, hy, hkw, hks, hp, z1, z2, z3, z4, z5, hlt, hkl, hx, hjw, hLk, hWk2, hck, hmk, hla, hcs2, d39, st1']) (by simp -implicitDefEqProofs [hn, w0, hz0, hlt, hin, hil, hy, hkw, hks, hp, z1, z2, z3, z4, z5, hlt, hkl, hx, hjw, hLk, hWk2, hck, hmk, hla, hcs2, d39, st1']) rfl (by simp) (by simp) (by simp)⟩
      · refine WpC.seq (WpC.drawn tabOk (by kernel_rfl) 0 (by simp) ?_)
        refine DrO.run (fz := []) 3 (by simp -implicitDefEqProofs [hn, w0, hz0, hlt, hin, hil, hy, hkw, hks, hp, z1, z2, z3, z4, z5, hlt, hkl, hx, hjw, hLk, hWk2, hck, hmk, hla, hcs2] <;> first | exact ⟨rfl, rfl, rfl, rfl⟩ | rfl) ?_
        refine DrO.run (fz := []) 3 (by simp -implicitDefEqProofs [hn, w0, hz0, hlt, hin, hil, hy, hkw, hks, hp, z1, z2, z3, z4, z5, hlt, hkl, hx, hjw, hLk, hWk2, hck, hmk, hla, hcs2] <;> first | exact ⟨rfl, rfl, rfl, rfl⟩ | rfl) ?_
        refine DrO.run (fz := []) 3 (by simp -implicitDefEqProofs [hn, w0, hz0, hlt, hin, hil, hy, hkw, hks, hp, z1, z2, z3, z4, z5, hlt, hkl, hx, hjw, hLk, hWk2, hck, hmk, hla, hcs2] <;> first | exact ⟨rfl, rfl, rfl, rfl⟩ | rfl) ?_
        refine DrO.run (fz := []) 2 (by simp -implicitDefEqProofs [hn, w0, hz0, hlt, hin, hil, hy, hkw, hks, hp, z1, z2, z3, z4, z5, hlt, hkl, hx, hjw, hLk, hWk2, hck, hmk, hla, hcs2] <;> first | exact ⟨rfl, rfl, rfl, rfl⟩ | rfl) ?_
        refine DrO.nil ⟨by kernel_rfl, ?_⟩
        refine WpC.condD (x.pri = p) (by simp -implicitDefEqProofs [hn, w0, hz0, hlt, hin, hil, hy, hkw, hks, hp, z1, z2, z3, z4, z5, hlt, hkl, hx, hjw, hLk, hWk2, hck, hmk, hla, hcs2]) (fun d57 => ?_) (fun d57 => ?_)
        · rw [if_pos d57] at st2 st3
          rw [st2] at s2
          rw [List.sum_append] at s2
          simp only [List.sum_cons, List.sum_nil, Int.add_zero] at s2
          have hw2 : IntKind.i64.wrap (Wk.sum + x.want) = Wk.sum + x.want := wrapI (by omega) (by omega)
          refine WpC.seq ?_
          refine WpC.seq (WpC.ops tabOk (r := []) (by simp -implicitDefEqProofs [hn, w0, hz0, hlt, hin, hil, hy, hkw, hks, hp, z1, z2, z3, z4, z5, hlt, hkl, hx, hjw, hLk, hWk2, hck, hmk, hla, hcs2, d57, hw2] <;> rfl) rfl ?_)
          refine WpC.condD ((k : Int) = i) (by simp -implicitDefEqProofs [hn, w0, hz0, hlt, hin, hil, hy, hkw, hks, hp, z1, z2, z3, z4, z5, hlt, hkl, hx, hjw, hLk, hWk2, hck, hmk, hla, hcs2, d57, hw2]) (fun d60 => ?_) (fun d60 => ?_)
          · obtain rfl : k = i := by omega
            have exy : y = x := hy.symm.trans hx
            subst exy
            rw [if_pos rfl] at st4
            refine WpC.ops tabOk (r := []) (by simp -implicitDefEqProofs [hn, w0, hz0, hlt, hin, hil, hy, hkw, hks, hp, z1, z2, z3, z4, z5, hlt, hkl, hx, hjw, hLk, hWk2, hck, hmk, hla, hcs2, d57, hw2, d60] <;> rfl) rfl ?_
            refine WpC.seq ?_
            refine WpC.region ?_
            refine WpO.run tabOk 5 (by simp -implicitDefEqProofs [hn, w0, hz0, hlt, hin, hil, hy, hkw, hks, hp, z1, z2, z3, z4, z5, hlt, hkl, hx, hjw, hLk, hWk2, hck, hmk, hla, hcs2, d57, hw2, d60] <;> first | exact ⟨rfl, rfl⟩ | rfl) ?_
            refine WpO.data (by simp) rfl (by simp -implicitDefEqProofs [hn, w0, hz0, hlt, hin, hil, hy, hkw, hks, hp, z1, z2, z3, z4, z5, hlt, hkl, hx, hjw, hLk, hWk2, hck, hmk, hla, hcs2, d57, hw2, d60] <;> rfl) (by simp -implicitDefEqProofs [hn, w0, hz0, hlt, hin, hil, hy, hkw, hks, hp, z1, z2, z3, z4, z5, hlt, hkl, hx, hjw, hLk, hWk2, hck, hmk, hla, hcs2, d57, hw2, d60] <;> rfl) (by simp -implicitDefEqProofs [hn, w0, hz0, hlt, hin, hil, hy, hkw, hks, hp, z1, z2, z3, z4, z5, hlt, hkl, hx, hjw, hLk, hWk2, hck, hmk, hla, hcs2, d57, hw2, d60] <;> rfl) call_20 (by simp) (hwx) (by rfl) (by simp -implicitDefEqProofs [hn, w0, hz0, hlt, hin, hil, hy, hkw, hks, hp, z1, z2, z3, z4, z5, hlt, hkl, hx, hjw, hLk, hWk2, hck, hmk, hla, hcs2, d57, hw2, d60] <;> rfl) ?_
            refine WpO.run tabOk 3 (by simp -implicitDefEqProofs [hn, w0, hz0, hlt, hin, hil, hy, hkw, hks, hp, z1, z2, z3, z4, z5, hlt, hkl, hx, hjw, hLk, hWk2, hck, hmk, hla, hcs2, d57, hw2, d60] <;> first | exact ⟨rfl, rfl⟩ | rfl) ?_
            refine WpO.nil ?_
            refine WpC.region ?_
            refine WpO.run tabOk 5 (by simp -implicitDefEqProofs [hn, w0, hz0, hlt, hin, hil, hy, hkw, hks, hp, z1, z2, z3, z4, z5, hlt, hkl, hx, hjw, hLk, hWk2, hck, hmk, hla, hcs2, d57, hw2, d60] <;> first | exact ⟨rfl, rfl⟩ | rfl) ?_
            refine WpO.data (by simp) rfl (by simp -implicitDefEqProofs [hn, w0, hz0, hlt, hin, hil, hy, hkw, hks, hp, z1, z2, z3, z4, z5, hlt, hkl, hx, hjw, hLk, hWk2, hck, hmk, hla, hcs2, d57, hw2, d60] <;> rfl) (by simp -implicitDefEqProofs [hn, w0, hz0, hlt, hin, hil, hy, hkw, hks, hp, z1, z2, z3, z4, z5, hlt, hkl, hx, hjw, hLk, hWk2, hck, hmk, hla, hcs2, d57, hw2, d60] <;> rfl) (by simp -implicitDefEqProofs [hn, w0, hz0, hlt, hin, hil, hy, hkw, hks, hp, z1, z2, z3, z4, z5, hlt, hkl, hx, hjw, hLk, hWk2, hck, hmk, hla, hcs2, d57, hw2, d60] <;> rfl) call_20 (by simp) (hwx) (by rfl) (by simp -implicitDefEqProofs [hn, w0, hz0, hlt, hin, hil, hy, hkw, hks, hp, z1, z2, z3, z4, z5, hlt, hkl, hx, hjw, hLk, hWk2, hck, hmk, hla, hcs2, d57, hw2, d60] <;> rfl) ?_
            refine WpO.run tabOk 2 (by simp -implicitDefEqProofs [hn, w0, hz0, hlt, hin, hil, hy, hkw, hks, hp, z1, z2, z3, z4, z5, hlt, hkl, hx, hjw, hLk, hWk2, hck, hmk, hla, hcs2, d57, hw2, d60] <;> first | exact ⟨rfl, rfl⟩ | rfl) ?_
            refine WpO.nil ?_
            refine WpC.ops tabOk (r := []) (by simp -implicitDefEqProofs [hn, w0, hz0, hlt, hin, hil, hy, hkw, hks, hp, z1, z2, z3, z4, z5, hlt, hkl, hx, hjw, hLk, hWk2, hck, hmk, hla, hcs2, d57, hw2, d60] <;> rfl) rfl ?_
            exact ⟨hlt, (), trivial, Gh.pick [9, 10, 11, 12, 13, 0, 1, 2, 7, 8] [0, 3] (by simp -implicitDefEqProofs [hn, w0, hz0, hlt, hin, hil, hy, hkw, hks, hp, z1, z2, z3, z4, z5, hlt, hkl, hx, hjw, hLk, hWk2, hck, hmk, hla, hcs2, d57, hw2, d60, st2, st3, st4]; rfl) (by simp -implicitDefEqProofs [hn, w0, hz0, hlt, hin, hil, hy, hkw, hks, hp, z1, z2, z3, z4, z5, hlt, hkl, hx, hjw, hLk, hWk2, hck, hmk, hla, hcs2, d57, hw2, d60, st2, st3, st4]) (by simp) (by simp) (by simp; rfl) (by simp -implicitDefEqProofs [hn, w0, hz0, hlt, hin, hil, hy, hkw, hks, hp, z1, z2, z3, z4, z5, hlt, hkl, hx, hjw, hLk, hWk2, hck, hmk, hla, hcs2, d57, hw2, d60, st2, st3, st4]) (by simp)⟩
          · rw [if_neg (by omega)] at st4
            refine WpC.skip ?_
            refine WpC.seq ?_
            refine WpC.region ?_
            refine WpO.run tabOk 5 (by simp -implicitDefEqProofs [hn, w0, hz0, hlt, hin, hil, hy, hkw, hks, hp, z1, z2, z3, z4, z5, hlt, hkl, hx, hjw, hLk, hWk2, hck, hmk, hla, hcs2, d57, hw2, d60] <;> first | exact ⟨rfl, rfl⟩ | rfl) ?_
            refine WpO.data (by simp) rfl (by simp -implicitDefEqProofs [hn, w0, hz0, hlt, hin, hil, hy, hkw, hks, hp, z1, z2, z3, z4, z5, hlt, hkl, hx, hjw, hLk, hWk2, hck, hmk, hla, hcs2, d57, hw2, d60] <;> rfl) (by simp -implicitDefEqProofs [hn, w0, hz0, hlt, hin, hil, hy, hkw, hks, hp, z1, z2, z3, z4, z5, hlt, hkl, hx, hjw, hLk, hWk2, hck, hmk, hla, hcs2, d57, hw2, d60] <;> rfl) (by simp -implicitDefEqProofs [hn, w0, hz0, hlt, hin, hil, hy, hkw, hks, hp, z1, z2, z3, z4, z5, hlt, hkl, hx, hjw, hLk, hWk2, hck, hmk, hla, hcs2, d57, hw2, d60] <;> rfl) call_20 (by simp) (hwx) (by rfl) (by simp -implicitDefEqProofs [hn, w0, hz0, hlt, hin, hil, hy, hkw, hks, hp, z1, z2, z3, z4, z5, hlt, hkl, hx, hjw, hLk, hWk2, hck, hmk, hla, hcs2, d57, hw2, d60] <;> rfl) ?_
            refine WpO.run tabOk 3 (by simp -implicitDefEqProofs [hn, w0, hz0, hlt, hin, hil, hy, hkw, hks, hp, z1, z2, z3, z4, z5, hlt, hkl, hx, hjw, hLk, hWk2, hck, hmk, hla, hcs2, d57, hw2, d60] <;> first | exact ⟨rfl, rfl⟩ | rfl) ?_
            refine WpO.nil ?_
            refine WpC.region ?_
            refine WpO.run tabOk 5 (by simp -implicitDefEqProofs [hn, w0, hz0, hlt, hin, hil, hy, hkw, hks, hp, z1, z2, z3, z4, z5, hlt, hkl, hx, hjw, hLk, hWk2, hck, hmk, hla, hcs2, d57, hw2, d60] <;> first | exact ⟨rfl, rfl⟩ | rfl) ?_
            refine WpO.data (by simp) rfl (by simp -implicitDefEqProofs [hn, w0, hz0, hlt, hin, hil, hy, hkw, hks, hp, z1, z2, z3, z4, z5, hlt, hkl, hx, hjw, hLk, hWk2, hck, hmk, hla, hcs2, d57, hw2, d60] <;> rfl) (by simp -implicitDefEqProofs [hn, w0, hz0, hlt, hin, hil, hy, hkw, hks, hp, z1, z2, z3, z4, z5, hlt, hkl, hx, hjw, hLk, hWk2, hck, hmk, hla, hcs2, d57, hw2, d60] <;> rfl) (by simp -implicitDefEqProofs [hn, w0, hz0, hlt, hin, hil, hy, hkw, hks, hp, z1, z2, z3, z4, z5, hlt, hkl, hx, hjw, hLk, hWk2, hck, hmk, hla, hcs2, d57, hw2, d60] <;> rfl) call_20 (by simp) (hwx) (by rfl) (by simp -implicitDefEqProofs [hn, w0, hz0, hlt, hin, hil, hy, hkw, hks, hp, z1, z2, z3, z4, z5, hlt, hkl, hx, hjw, hLk, hWk2, hck, hmk, hla, hcs2, d57, hw2, d60] <;> rfl) ?_
            refine WpO.run tabOk 2 (by simp -implicitDefEqProofs [hn, w0, hz0, hlt, hin, hil, hy, hkw, hks, hp, z1, z2, z3, z4, z5, hlt, hkl, hx, hjw, hLk, hWk2, hck, hmk, hla, hcs2, d57, hw2, d60] <;> first | exact ⟨rfl, rfl⟩ | rfl) ?_
            refine WpO.nil ?_
            refine WpC.ops tabOk (r := []) (by simp -implicitDefEqProofs [hn, w0, hz0, hlt, hin, hil, hy, hkw, hks, hp, z1, z2, z3, z4, z5, hlt, hkl, hx, hjw, hLk, hWk2, hck, hmk, hla, hcs2, d57, hw2, d60] <;> rfl) rfl ?_
            exact ⟨hlt, (), trivial, Gh.pick [9, 10, 11, 12, 13, 0, 1, 2, 7, 8] [0, 3] (by simp -implicitDefEqProofs [hn, w0, hz0, hlt, hin, hil, hy, hkw, hks, hp, z1, z2, z3, z4, z5, hlt, hkl, hx, hjw, hLk, hWk2, hck, hmk, hla, hcs2, d57, hw2, d60, st2, st3, st4]; rfl) (by simp -implicitDefEqProofs [hn, w0, hz0, hlt, hin, hil, hy, hkw, hks, hp, z1, z2, z3, z4, z5, hlt, hkl, hx, hjw, hLk, hWk2, hck, hmk, hla, hcs2, d57, hw2, d60, st2, st3, st4]) (by simp) (by simp) (by simp; rfl) (by simp -implicitDefEqProofs [hn, w0, hz0, hlt, hin, hil, hy, hkw, hks, hp, z1, z2, z3, z4, z5, hlt, hkl, hx, hjw, hLk, hWk2, hck, hmk, hla, hcs2, d57, hw2, d60, st2, st3, st4]) (by simp)⟩
        · rw [if_neg d57] at st2 st3
          have hki : k ≠ i := fun e => by subst e; exact d57 (by rw [← hPk, hPy, hp])
          rw [if_neg hki] at st4
          refine WpC.skip ?_
          refine WpC.ops tabOk (r := []) (by simp -implicitDefEqProofs [hn, w0, hz0, hlt, hin, hil, hy, hkw, hks, hp, z1, z2, z3, z4, z5, hlt, hkl, hx, hjw, hLk, hWk2, hck, hmk, hla, hcs2, d57] <;> rfl) rfl ?_
          exact ⟨hlt, (), trivial, Gh.cut' [9, 10, 11, 12, 13, 0, 1, 2, 7, 8] 2 (by simp -implicitDefEqProofs [hn, w0, hz0, hlt, hin, hil, hy, hkw, hks, hp, z1, z2, z3, z4, z5, hlt, hkl, hx, hjw, hLk, hWk2, hck, hmk, hla, hcs2, d57, st2, st3, st4]) (by simp -implicitDefEqProofs [hn, w0, hz0, hlt, hin, hil, hy, hkw, hks, hp, z1, z2, z3, z4, z5, hlt, hkl, hx, hjw, hLk, hWk2, hck, hmk, hla, hcs2, d57, st2, st3, st4]) rfl (by simp) (by simp) (by simp)⟩
    · refine WpC.exit ?_
      obtain rfl : n = k := by omega
      refine WpC.block ?_
      obtain ⟨c1, c2, c3⟩ := hci
      have hg := hgk n (Nat.le_refl _)
      have s3 := wN_ok hg p
      have hla := wN_len (P := P) (W := W) (n := n) p
      have hme : meN P i n = posN P i := if_neg (by omega)
      rw [hme]
      obtain ⟨t, ht⟩ : ∃ z, net - prot - lowS P W n p = z := ⟨_, rfl⟩
      obtain ⟨ws, hws⟩ : ∃ z, wN P W n p = z := ⟨_, rfl⟩
      obtain ⟨me, hm2⟩ : ∃ z, posN P i = z := ⟨_, rfl⟩
      rw [ht] at c1 c2 c3 ⊢
      rw [hws] at c1 c2 c3 s3 hla ⊢
      rw [hm2] at c3 ⊢
      rw [← hla]
      refine WpC.seq (WpC.ops tabOk (r := []) (by simp -implicitDefEqProofs [hn, w0, hz0, hlt, hin, hil, hy, hkw, hks, hp, z1, z2, z3, z4, z5] <;> rfl) rfl ?_)
      refine WpC.condD (ws.sum ≤ t) (by simp -implicitDefEqProofs [hn, w0, hz0, hlt, hin, hil, hy, hkw, hks, hp, z1, z2, z3, z4, z5]) (fun d87 => ?_) (fun d87 => ?_)
      · have hOi : O i = y.want := (c1 d87).trans hWy
        refine WpC.region ?_
        refine WpO.run tabOk 5 (by simp -implicitDefEqProofs [hn, w0, hz0, hlt, hin, hil, hy, hkw, hks, hp, z1, z2, z3, z4, z5, d87] <;> first | exact ⟨rfl, rfl⟩ | rfl) ?_
        refine WpO.data (by simp) rfl (by simp -implicitDefEqProofs [hn, w0, hz0, hlt, hin, hil, hy, hkw, hks, hp, z1, z2, z3, z4, z5, d87] <;> rfl) (by simp -implicitDefEqProofs [hn, w0, hz0, hlt, hin, hil, hy, hkw, hks, hp, z1, z2, z3, z4, z5, d87] <;> rfl) (by simp -implicitDefEqProofs [hn, w0, hz0, hlt, hin, hil, hy, hkw, hks, hp, z1, z2, z3, z4, z5, d87] <;> rfl) call_20 (by simp) (hwy) (by rfl) (by simp -implicitDefEqProofs [hn, w0, hz0, hlt, hin, hil, hy, hkw, hks, hp, z1, z2, z3, z4, z5, d87] <;> rfl) ?_
        refine WpO.run tabOk 3 (by simp -implicitDefEqProofs [hn, w0, hz0, hlt, hin, hil, hy, hkw, hks, hp, z1, z2, z3, z4, z5, d87] <;> first | exact ⟨rfl, rfl⟩ | rfl) ?_
        refine WpO.nil ?_
        refine WpC.ops tabOk (r := []) (by simp -implicitDefEqProofs [hn, w0, hz0, hlt, hin, hil, hy, hkw, hks, hp, z1, z2, z3, z4, z5, d87] <;> rfl) rfl ?_
        exact ⟨hlt, (), trivial, Gh.pick [7, 8, 0, 1, 2] [3] (by simp -implicitDefEqProofs [hn, w0, hz0, hlt, hin, hil, hy, hkw, hks, hp, z1, z2, z3, z4, z5, d87, hro, hOi]; rfl) (by simp -implicitDefEqProofs [hn, w0, hz0, hlt, hin, hil, hy, hkw, hks, hp, z1, z2, z3, z4, z5, d87, hro, hOi]) (by simp) (by simp) (by simp; rfl) (by simp -implicitDefEqProofs [hn, w0, hz0, hlt, hin, hil, hy, hkw, hks, hp, z1, z2, z3, z4, z5, d87, hro, hOi]) (by simp)⟩
      · have c2' := c2 d87
        have c3' := c3 d87
        refine WpC.seq (WpC.ops tabOk (r := []) (by simp -implicitDefEqProofs [hn, w0, hz0, hlt, hin, hil, hy, hkw, hks, hp, z1, z2, z3, z4, z5, d87] <;> rfl) rfl ?_)
        refine WpC.condD (t ≤ 0) (by simp -implicitDefEqProofs [hn, w0, hz0, hlt, hin, hil, hy, hkw, hks, hp, z1, z2, z3, z4, z5, d87]) (fun d99 => ?_) (fun d99 => ?_)
        · have hOi : O i = 0 := c2' d99
          refine WpC.ops tabOk (r := []) (by simp -implicitDefEqProofs [hn, w0, hz0, hlt, hin, hil, hy, hkw, hks, hp, z1, z2, z3, z4, z5, d87, d99] <;> rfl) rfl ?_
          refine WpC.ops tabOk (r := []) (by simp -implicitDefEqProofs [hn, w0, hz0, hlt, hin, hil, hy, hkw, hks, hp, z1, z2, z3, z4, z5, d87, d99] <;> rfl) rfl ?_
          exact ⟨hlt, (), trivial, Gh.pick [7, 8, 0, 1, 2] [3] (by simp -implicitDefEqProofs [hn, w0, hz0, hlt, hin, hil, hy, hkw, hks, hp, z1, z2, z3, z4, z5, d87, d99, hro, hOi]; rfl) (by simp -implicitDefEqProofs [hn, w0, hz0, hlt, hin, hil, hy, hkw, hks, hp, z1, z2, z3, z4, z5, d87, d99, hro, hOi]) (by simp) (by simp) (by simp; rfl) (by simp -implicitDefEqProofs [hn, w0, hz0, hlt, hin, hil, hy, hkw, hks, hp, z1, z2, z3, z4, z5, d87, d99, hro, hOi]) (by simp)⟩
        · obtain ⟨c4, c5⟩ := c3' d99
          have hrs := refSplit_ok t ws (by unfold in64; have h1 := s3.2.2; omega) c4
          obtain ⟨hml, hmo⟩ := List.getElem?_eq_some_iff.1 c5
          obtain ⟨S, hS⟩ : ∃ z, spS t ws = z := ⟨_, rfl⟩
          rw [hS] at hrs
          simp only [hS] at hml hmo
          have hOi : O i = O i := rfl
          refine WpC.gh (Gh.frz [1]) ?_
          refine WpC.gh (Gh.view (t := 10) (x := .sl 1 ws.length) (y := .d (.list 1 (ws.map dI))) (by simp) (by simp)) ?_
          refine WpC.region ?_
          refine WpO.run tabOk 3 (by simp -implicitDefEqProofs [hn, w0, hz0, hlt, hin, hil, hy, hkw, hks, hp, z1, z2, z3, z4, z5, d87, d99, hml, hmo] <;> first | exact ⟨rfl, rfl⟩ | rfl) ?_
          refine WpO.data (by simp) rfl (by simp -implicitDefEqProofs [hn, w0, hz0, hlt, hin, hil, hy, hkw, hks, hp, z1, z2, z3, z4, z5, d87, d99, hml, hmo] <;> rfl) (by simp -implicitDefEqProofs [hn, w0, hz0, hlt, hin, hil, hy, hkw, hks, hp, z1, z2, z3, z4, z5, d87, d99, hml, hmo] <;> rfl) (by simp -implicitDefEqProofs [hn, w0, hz0, hlt, hin, hil, hy, hkw, hks, hp, z1, z2, z3, z4, z5, d87, d99, hml, hmo] <;> rfl) call_21 (by simp) (hrs) (by rfl) (by simp -implicitDefEqProofs [hn, w0, hz0, hlt, hin, hil, hy, hkw, hks, hp, z1, z2, z3, z4, z5, d87, d99, hml, hmo] <;> rfl) ?_
          refine WpO.run tabOk 6 (by simp -implicitDefEqProofs [hn, w0, hz0, hlt, hin, hil, hy, hkw, hks, hp, z1, z2, z3, z4, z5, d87, d99, hml, hmo] <;> first | exact ⟨rfl, rfl⟩ | rfl) ?_
          refine WpO.nil ?_
          refine WpC.ops tabOk (r := []) (by simp -implicitDefEqProofs [hn, w0, hz0, hlt, hin, hil, hy, hkw, hks, hp, z1, z2, z3, z4, z5, d87, d99, hml, hmo] <;> rfl) rfl ?_
          exact ⟨hlt, (), trivial, Gh.pick [7, 8, 0, 1, 2] [3] (by simp -implicitDefEqProofs [hn, w0, hz0, hlt, hin, hil, hy, hkw, hks, hp, z1, z2, z3, z4, z5, d87, d99, hml, hmo, hro, hOi]; rfl) (by simp -implicitDefEqProofs [hn, w0, hz0, hlt, hin, hil, hy, hkw, hks, hp, z1, z2, z3, z4, z5, d87, d99, hml, hmo, hro, hOi]) (by simp) (by simp) (by simp; rfl) (by simp -implicitDefEqProofs [hn, w0, hz0, hlt, hin, hil, hy, hkw, hks, hp, z1, z2, z3, z4, z5, d87, d99, hml, hmo, hro, hOi]) (by simp)⟩
  · refine WpC.exit ?_
    obtain rfl : n = k := by omega
    refine WpC.seq (WpC.ops tabOk (r := []) (by simp -implicitDefEqProofs [hn, w0, hz0] <;> rfl) rfl ?_)
    refine WpC.ret ?_
    try simp only [blockQ, seqQ]
    refine retD_i (by simp -implicitDefEqProofs [hn, w0, hz0] <;> rfl) (by simp -implicitDefEqProofs [hn, w0, hz0] <;> rfl) ?_
    simp -implicitDefEqProofs [hn, w0, hz0]
theorem outI_len {net prot : Int} {l : List Ord} : (outI net prot l).length ≤ l.length := by
  unfold outI
  split <;> simp
set_option maxHeartbeats 4000000 in
theorem garnishExact_ok (net prot : Int) (l : List Ord) (hl : l.length ≤ 9223372036854775807) (ho : ∀ o ∈ l, o.ok) : Gives Try.prog 3 [.d (dI net), .d (dI prot), .d (encOs l)] (.d (.bool true)) := by
  refine Gives.enter tabOk Try.func3 rfl (by show 3 ≤ 51; decide) ?_
  simp only [Try.f3]
  refine WpC.seq (WpC.ops tabOk (r := []) (by simp -implicitDefEqProofs <;> rfl) rfl ?_)
  refine WpC.seq ?_
  refine WpC.seq (WpC.ops tabOk (r := []) (by simp -implicitDefEqProofs <;> rfl) rfl ?_)
  refine WpC.condD ((40 : Int) < l.length) (by simp -implicitDefEqProofs) (fun d12 => ?_) (fun d12 => ?_)
  · refine WpC.seq ?_
    refine WpC.region ?_
    refine WpO.data (by simp) rfl (by simp -implicitDefEqProofs [d12] <;> rfl) (by simp -implicitDefEqProofs [d12] <;> rfl) (by simp -implicitDefEqProofs [d12] <;> rfl) call_10 (by simp) (awake15_ok) (by rfl) (by simp -implicitDefEqProofs [d12] <;> rfl) ?_
    refine WpO.run tabOk 1 (by simp -implicitDefEqProofs [d12] <;> first | exact ⟨rfl, rfl⟩ | rfl) ?_
    refine WpO.nil ?_
    refine WpC.ret ?_
    try simp only [blockQ, seqQ]
    refine retD_i (by simp -implicitDefEqProofs [d12] <;> rfl) (by simp -implicitDefEqProofs [d12] <;> rfl) ?_
    simp -implicitDefEqProofs [d12]
  · have hl8 : l.length ≤ 40 := by omega
    have hs := serveL_ok net prot l (by omega)
    have hm := may_ok net prot l (by omega)
    have hr := fun h => refServe_ok net prot l h
    have hno := fun h => outI_none (net := net) (prot := prot) (l := l) h
    have hlen := outI_len (net := net) (prot := prot) (l := l)
    obtain ⟨e, he⟩ : ∃ e, chkE net prot l = e := ⟨_, rfl⟩
    obtain ⟨K, hK⟩ : ∃ K, outI net prot l = K := ⟨_, rfl⟩
    rw [hK, he] at hs
    rw [he] at hm
    rw [hK, he] at hno hr
    rw [hK] at hlen
    have hsa := same_ok K K (by omega) (by omega)
    simp only [decide_true] at hsa
    refine WpC.skip ?_
    refine WpC.seq ?_
    refine WpC.region ?_
    refine WpO.run tabOk 3 (by simp -implicitDefEqProofs [d12] <;> first | exact ⟨rfl, rfl⟩ | rfl) ?_
    refine WpO.data (by simp) rfl (by simp -implicitDefEqProofs [d12] <;> rfl) (by simp -implicitDefEqProofs [d12] <;> rfl) (by simp -implicitDefEqProofs [d12] <;> rfl) call_11 (by simp) (hs) (by rfl) (by simp -implicitDefEqProofs [d12] <;> rfl) ?_
    refine WpO.run tabOk 5 (by simp -implicitDefEqProofs [d12] <;> first | exact ⟨rfl, rfl⟩ | rfl) ?_
    refine WpO.nil ?_
    refine WpC.seq ?_
    refine WpC.region ?_
    refine WpO.run tabOk 3 (by simp -implicitDefEqProofs [d12] <;> first | exact ⟨rfl, rfl⟩ | rfl) ?_
    refine WpO.data (by simp) rfl (by simp -implicitDefEqProofs [d12] <;> rfl) (by simp -implicitDefEqProofs [d12] <;> rfl) (by simp -implicitDefEqProofs [d12] <;> rfl) call_12 (by simp) (hm) (by rfl) (by simp -implicitDefEqProofs [d12] <;> rfl) ?_
    refine WpO.run tabOk 1 (by simp -implicitDefEqProofs [d12] <;> first | exact ⟨rfl, rfl⟩ | rfl) ?_
    refine WpO.nil ?_
    refine WpC.seq ?_
    refine WpC.seq (WpC.ops tabOk (r := []) (by simp -implicitDefEqProofs [d12] <;> rfl) rfl ?_)
    refine WpC.condD (¬ e = 0) (by simp -implicitDefEqProofs [d12]) (fun d26 => ?_) (fun d26 => ?_)
    · have hKe := hno d26
      subst hKe
      refine WpC.seq ?_
      refine WpC.val 6 (.d (.bool (true))) ?_ ?_
      · refine WpC.region ?_
        refine WpO.run tabOk 4 (by simp -implicitDefEqProofs [d12, d26] <;> first | exact ⟨rfl, rfl⟩ | rfl) ?_
        refine WpO.splitB 30 (by simp -implicitDefEqProofs [d12, d26] <;> rfl) (by rfl) (fun g30 => ?_) (fun g30 => ?_)
        · try (exfalso; revert g30; simp; done)
          all_goals
            have g30' := g30; first | simp only [dT, dF] at g30' | try simp at g30'
            refine WpO.run tabOk 5 (by simp -implicitDefEqProofs [d12, d26, g30] <;> first | exact ⟨rfl, rfl⟩ | rfl) ?_
            refine WpO.splitB 35 (by simp -implicitDefEqProofs [d12, d26, g30] <;> rfl) (by rfl) (fun g35 => ?_) (fun g35 => ?_)
            · try (exfalso; revert g35; simp; done)
              all_goals
                have g35' := g35; first | simp only [dT, dF] at g35' | try simp at g35'
                refine WpO.data (by simp) rfl (by simp -implicitDefEqProofs [d12, d26, g30, g35] <;> rfl) (by simp -implicitDefEqProofs [d12, d26, g30, g35] <;> rfl) (by simp -implicitDefEqProofs [d12, d26, g30, g35] <;> rfl) call_10 (by simp) (awake15_ok) (by rfl) (by simp -implicitDefEqProofs [d12, d26, g30, g35] <;> rfl) ?_
                refine WpO.run tabOk 2 (by simp -implicitDefEqProofs [d12, d26, g30, g35] <;> first | exact ⟨rfl, rfl⟩ | rfl) ?_
                refine WpO.nil ?_
                refine ⟨rfl, Gh.only 6 14 ?_ (by first | rfl | simp -implicitDefEqProofs [d12, d26, g30, g35]) (by rfl)⟩
                simp -implicitDefEqProofs [d12, d26, g30, g35, g30', g35']
            · try (exfalso; revert g35; simp; done)
              all_goals
                have g35' := g35; first | simp only [dT, dF] at g35' | try simp at g35'
                refine WpO.run tabOk 3 (by simp -implicitDefEqProofs [d12, d26, g30, g35] <;> first | exact ⟨rfl, rfl⟩ | rfl) ?_
                refine WpO.nil ?_
                refine ⟨rfl, Gh.only 6 14 ?_ (by first | rfl | simp -implicitDefEqProofs [d12, d26, g30, g35]) (by rfl)⟩
                simp -implicitDefEqProofs [d12, d26, g30, g35, g30', g35']
        · try (exfalso; revert g30; simp; done)
          all_goals
            have g30' := g30; first | simp only [dT, dF] at g30' | try simp at g30'
            refine WpO.run tabOk 8 (by simp -implicitDefEqProofs [d12, d26, g30] <;> first | exact ⟨rfl, rfl⟩ | rfl) ?_
            refine WpO.nil ?_
            refine ⟨rfl, Gh.only 6 13 ?_ (by first | rfl | simp -implicitDefEqProofs [d12, d26, g30]) (by rfl)⟩
            simp -implicitDefEqProofs [d12, d26, g30, g30']
      refine WpC.ret ?_
      try simp only [blockQ, seqQ]
      refine retD_i (by simp -implicitDefEqProofs [d12, d26] <;> rfl) (by simp -implicitDefEqProofs [d12, d26] <;> rfl) ?_
      simp -implicitDefEqProofs [d12, d26]
    · have he0 : e = 0 := Classical.not_not.1 d26
      have hr0 := hr he0
      refine WpC.skip ?_
      refine WpC.seq ?_
      refine WpC.val 6 (.d (.bool (true))) ?_ ?_
      · refine WpC.region ?_
        refine WpO.run tabOk 4 (by simp -implicitDefEqProofs [d12, d26, he0] <;> first | exact ⟨rfl, rfl⟩ | rfl) ?_
        refine WpO.data (by simp) rfl (by simp -implicitDefEqProofs [d12, d26, he0] <;> rfl) (by simp -implicitDefEqProofs [d12, d26, he0] <;> rfl) (by simp -implicitDefEqProofs [d12, d26, he0] <;> rfl) call_14 (by simp) (hr0) (by rfl) (by simp -implicitDefEqProofs [d12, d26, he0] <;> rfl) ?_
        refine WpO.data (by simp) rfl (by simp -implicitDefEqProofs [d12, d26, he0] <;> rfl) (by simp -implicitDefEqProofs [d12, d26, he0] <;> rfl) (by simp -implicitDefEqProofs [d12, d26, he0] <;> rfl) call_13 (by simp) (hsa) (by rfl) (by simp -implicitDefEqProofs [d12, d26, he0] <;> rfl) ?_
        refine WpO.run tabOk 1 (by simp -implicitDefEqProofs [d12, d26, he0] <;> first | exact ⟨rfl, rfl⟩ | rfl) ?_
        refine WpO.splitB 44 (by simp -implicitDefEqProofs [d12, d26, he0] <;> rfl) (by rfl) (fun g44 => ?_) (fun g44 => ?_)
        · try (exfalso; revert g44; simp; done)
          all_goals
            have g44' := g44; first | simp only [dT, dF] at g44' | try simp at g44'
            refine WpO.run tabOk 4 (by simp -implicitDefEqProofs [d12, d26, he0, g44] <;> first | exact ⟨rfl, rfl⟩ | rfl) ?_
            refine WpO.splitB 48 (by simp -implicitDefEqProofs [d12, d26, he0, g44] <;> rfl) (by rfl) (fun g48 => ?_) (fun g48 => ?_)
            · try (exfalso; revert g48; simp; done)
              all_goals
                have g48' := g48; first | simp only [dT, dF] at g48' | try simp at g48'
                refine WpO.data (by simp) rfl (by simp -implicitDefEqProofs [d12, d26, he0, g44, g48] <;> rfl) (by simp -implicitDefEqProofs [d12, d26, he0, g44, g48] <;> rfl) (by simp -implicitDefEqProofs [d12, d26, he0, g44, g48] <;> rfl) call_10 (by simp) (awake15_ok) (by rfl) (by simp -implicitDefEqProofs [d12, d26, he0, g44, g48] <;> rfl) ?_
                refine WpO.run tabOk 2 (by simp -implicitDefEqProofs [d12, d26, he0, g44, g48] <;> first | exact ⟨rfl, rfl⟩ | rfl) ?_
                refine WpO.nil ?_
                refine ⟨rfl, Gh.only 6 16 ?_ (by first | rfl | simp -implicitDefEqProofs [d12, d26, he0, g44, g48]) (by rfl)⟩
                simp -implicitDefEqProofs [d12, d26, he0, g44, g48, g44', g48']
            · try (exfalso; revert g48; simp; done)
              all_goals
                have g48' := g48; first | simp only [dT, dF] at g48' | try simp at g48'
                refine WpO.run tabOk 3 (by simp -implicitDefEqProofs [d12, d26, he0, g44, g48] <;> first | exact ⟨rfl, rfl⟩ | rfl) ?_
                refine WpO.nil ?_
                refine ⟨rfl, Gh.only 6 16 ?_ (by first | rfl | simp -implicitDefEqProofs [d12, d26, he0, g44, g48]) (by rfl)⟩
                simp -implicitDefEqProofs [d12, d26, he0, g44, g48, g44', g48']
        · try (exfalso; revert g44; simp; done)
          all_goals
            have g44' := g44; first | simp only [dT, dF] at g44' | try simp at g44'
            refine WpO.run tabOk 7 (by simp -implicitDefEqProofs [d12, d26, he0, g44] <;> first | exact ⟨rfl, rfl⟩ | rfl) ?_
            refine WpO.nil ?_
            refine ⟨rfl, Gh.only 6 15 ?_ (by first | rfl | simp -implicitDefEqProofs [d12, d26, he0, g44]) (by rfl)⟩
            simp -implicitDefEqProofs [d12, d26, he0, g44, g44']
      refine WpC.ret ?_
      try simp only [blockQ, seqQ]
      refine retD_i (by simp -implicitDefEqProofs [d12, d26, he0] <;> rfl) (by simp -implicitDefEqProofs [d12, d26, he0] <;> rfl) ?_
      simp -implicitDefEqProofs [d12, d26, he0]
section
variable {w : World}
theorem garnishExact_row {e0 e1 e2 : List D} {v0 v1 v2 : Value} {i0 i1 i2 : TI} (y0 : HasT tab 8 3 e0) (y1 : HasT tab 8 3 e1) (y2 : HasT tab 8 22 e2) (t0 : some i0 = tab 3) (t1 : some i1 = tab 3) (t2 : some i2 = tab 22)
    (z0 : DRel w (lt w) (elemD i0 e0) v0) (z1 : DRel w (lt w) (elemD i1 e1) v1) (z2 : DRel w (lt w) (elemD i2 e2) v2) :
    Calls Try.prog 3 #[v0, v1, v2] w fun e w' => e = .returned (.bool true) ∧ Below w.heap.size w w' := by
  rw [tab_3] at t0 t1; cases t0; cases t1
  rw [tab_22] at t2; cases t2
  obtain ⟨n, rfl, hn⟩ := has_num y0 tab_3
  obtain ⟨m, rfl, hm⟩ := has_num y1 tab_3
  obtain ⟨l, ho, hl, rfl⟩ := has_ords y2
  refine WpF.law (garnishExact_ok n m l (by simpa [maxLen] using hl) ho) (fun r S h => h.1) (vs := [v0, v1, v2]) ?_
  simp only [VRelL, VRel]
  exact ⟨v0, _, rfl, z0, v1, _, rfl, z1, v2, _, rfl, z2, rfl⟩
end
end Go.Proofs.Ytaobnhenjldjeaa.Pay
