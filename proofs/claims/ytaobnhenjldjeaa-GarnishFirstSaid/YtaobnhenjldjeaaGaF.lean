/- garnish.Serve. No statement of the seed is proved here. -/
import Derived.Test.YtaobnhenjldjeaaGaE
namespace Go.Proofs.Ytaobnhenjldjeaa.Pay
open Go Go.RowKit
set_option linter.unusedVariables false
set_option linter.unusedSimpArgs false
set_option linter.unusedSectionVars false

theorem chk_good {net prot : Int} {l : List Ord} (h : chkE net prot l = 0) : GoodN (at0 (net - prot)) (priF l) (wantF l) l.length ∧ (∀ o ∈ l, 0 ≤ o.claim ∧ o.claim ≤ 1125899906842624 ∧ 0 ≤ o.bal ∧ o.bal ≤ 1125899906842624) ∧ (-1125899906842624 ≤ net ∧ net ≤ 1125899906842624) ∧ 0 ≤ prot ∧ prot ≤ 1125899906842624 := by
  unfold chkE at h
  split at h
  · simp at h
  rename_i h8
  split at h
  · simp at h
  rename_i hneg
  split at h
  · simp at h
  rename_i hbig
  have hall : ∀ o ∈ l, 0 ≤ o.claim ∧ o.claim ≤ 1125899906842624 ∧ 0 ≤ o.bal ∧ o.bal ≤ 1125899906842624 := fun o ho => by
    have h1 : (l.any fun x => decide (x.claim < 0 ∨ x.bal < 0)) = false := by
      cases q : (l.any fun x => decide (x.claim < 0 ∨ x.bal < 0)) with
      | false => rfl
      | true => exact absurd (.inr q) hneg
    have h2 : (l.any fun x => decide (1125899906842624 < x.claim ∨ 1125899906842624 < x.bal)) = false := by
      cases q : (l.any fun x => decide (1125899906842624 < x.claim ∨ 1125899906842624 < x.bal)) with
      | false => rfl
      | true => exact absurd (.inr (.inr q)) hbig
    rw [List.any_eq_false] at h1 h2
    have := h1 o ho
    have := h2 o ho
    simp at *
    omega
  have hw : ∀ i, i < l.length → 0 ≤ wantF l i ∧ wantF l i ≤ 1125899906842624 := fun i hi => by
    unfold wantF
    rw [List.getElem?_eq_getElem hi]
    have := hall _ (List.getElem_mem hi)
    show 0 ≤ min _ _ ∧ min _ _ ≤ _
    omega
  exact ⟨⟨at0_pos _, by omega, fun i hi => (hw i hi).1, fun i hi => (hw i hi).2⟩, hall, by omega, by omega⟩
theorem upd_same (f : Nat → Int) (i : Nat) (x : Int) : upd f i x i = x := if_pos rfl
def dN (i : Nat) : D := dI (i : Int)
/-- The row while a group is served. -/
def oG (f o : Nat → Int) (ats : List Nat) (k : Nat) : Nat → Int := fun i => if i ∈ ats.take k then f i else o i
theorem oG_zero (f o : Nat → Int) (ats : List Nat) : oG f o ats 0 = o := by funext i; simp [oG]
theorem takeN_in {l : List Nat} {k : Nat} (hk : k < l.length) {x : Nat} : x ∈ l.take (k + 1) ↔ x ∈ l.take k ∨ x = l[k] := by
  rw [List.take_add_one, List.getElem?_eq_getElem hk]; simp only [Option.toList_some, List.mem_append, List.mem_singleton]
theorem oG_step (f o : Nat → Int) {ats : List Nat} {k : Nat} (hk : k < ats.length) : upd (oG f o ats k) ats[k] (f ats[k]) = oG f o ats (k + 1) := by
  funext i
  unfold upd oG
  have h1 := takeN_in hk (x := i)
  by_cases e : i = ats[k]
  · rw [if_pos e, if_pos (h1.2 (.inr e)), e]
  · rw [if_neg e]
    by_cases e2 : i ∈ ats.take k
    · rw [if_pos e2, if_pos (h1.2 (.inl e2))]
    · rw [if_neg e2, if_neg (fun q => (h1.1 q).elim e2 e)]
def oF (A : Int) (P W : Nat → Int) (n : Nat) (ps : List Int) (k : Nat) : Nat → Int := fun i => if P i ∈ ps.take k then outN A P W n i else 0
theorem oF_zero (A : Int) (P W : Nat → Int) (n : Nat) (ps : List Int) : oF A P W n ps 0 = fun _ => 0 := by funext i; simp [oF]
theorem oF_next {A : Int} {P W : Nat → Int} {n : Nat} {ps : List Int} {q : Nat} (hq : q < ps.length) {ats : List Nat} (ha : atN P n ps[q] = ats) : rowF (oG (outN A P W n) (oF A P W n ps q) ats ats.length) n = rowF (oF A P W n ps (q + 1)) n := rowF_ext fun i hi => by
  unfold oG oF
  rw [List.take_of_length_le (Nat.le_refl _), ← ha]
  have h1 := take_in hq (x := P i)
  have h2 := atN_mem (P := P) (n := n) (p := ps[q]) (i := i)
  by_cases e : P i = ps[q]
  · rw [if_pos (h2.2 ⟨hi, e⟩), if_pos (h1.2 (.inr e))]
  · rw [if_neg (fun z => e (h2.1 z).2)]
    by_cases e2 : P i ∈ ps.take q
    · rw [if_pos e2, if_pos (h1.2 (.inl e2))]
    · rw [if_neg e2, if_neg (fun z => (h1.1 z).elim e2 e)]
theorem oF_all {A : Int} {P W : Nat → Int} {n : Nat} {ps : List Int} (h : Prs P n ps) : rowF (oF A P W n ps ps.length) n = rowF (outN A P W n) n := rowF_ext fun i hi => by
  unfold oF
  rw [List.take_of_length_le (Nat.le_refl _), if_pos (h.all i hi)]
theorem max0 (x : Int) : max x 0 = at0 x := by unfold at0; split <;> omega
/-- What Serve gives. -/
def srvL (net prot : Int) (l : List Ord) : List D := if chkE net prot l = 0 then rowF (outN (at0 (net - prot)) (priF l) (wantF l) l.length) l.length else []

structure SrvI (A : Int) (P W : Nat → Int) (n : Nat) (h : Nat → Int) (m : Nat) (T : Nat → Int) (O : Nat → Nat → Int) : Prop where
  T0 : T 0 = A
  O0 : O 0 = fun _ => 0
  th : ∀ q, q < m → thN A P W n (h q) = T q
  Tb : ∀ q, 0 ≤ T q ∧ T q ≤ A
  Tn : ∀ q, q < m → T q - (pN A P W n (h q)).sum = T (q + 1)
  On : ∀ q, q < m → ∀ ats, atN P n (h q) = ats → rowF (oG (outN A P W n) (O q) ats ats.length) n = rowF (O (q + 1)) n
  Om : rowF (O m) n = rowF (outN A P W n) n
theorem srv_facts {A : Int} {P W : Nat → Int} {n m : Nat} {h : Nat → Int} (g : GoodN A P W n) (hps : Prs P n ((List.range m).map h)) : ∃ T O, SrvI A P W n h m T O := by
  obtain ⟨ps, hp⟩ : ∃ ps, (List.range m).map h = ps := ⟨_, rfl⟩
  have hl : ps.length = m := by rw [← hp]; simp
  have hat : ∀ q (hq : q < ps.length), ps[q] = h q := fun q hq => by simp [← hp]
  rw [hp] at hps
  refine ⟨fun k => at0 (A - ahS P W n ps k), oF A P W n ps, ?_, oF_zero _ _ _ _ _, fun q hq => ?_, fun q => ⟨at0_pos _, ?_⟩, fun q hq => ?_, fun q hq ats ha => ?_, ?_⟩
  · have e2 : ahS P W n ps 0 = 0 := (sumF_congr fun i _ => by simp).trans (sumF_none n)
    show at0 (A - ahS P W n ps 0) = A
    rw [e2]
    have := g.A0
    unfold at0; split <;> omega
  · rw [← hat q (by omega)]; exact (th_next g hps (by omega)).1
  · have : 0 ≤ ahS P W n ps q := sumF_pos fun i hi => by have := g.w0 i hi; split <;> omega
    have := g.A0
    show at0 (A - ahS P W n ps q) ≤ A
    unfold at0; split <;> omega
  · rw [← hat q (by omega)]; exact (th_next g hps (by omega)).2.2.symm
  · rw [← hat q (by omega)] at ha
    exact oF_next (by omega) ha
  · rw [← hl]; exact oF_all hps
/-- A group, as it is gathered. -/
structure GrpI (P W : Nat → Int) (p : Int) (n : Nat) (a w : Nat → List D) (c : Nat → Nat) (s : Nat → Int) : Prop where
  a0 : a 0 = []
  w0 : w 0 = []
  c0 : c 0 = 0
  s0 : s 0 = 0
  ay : ∀ k, P k = p → a (k + 1) = a k ++ [dI (k : Int)]
  wy : ∀ k, P k = p → w (k + 1) = w k ++ [dI (W k)]
  cy : ∀ k, P k = p → c (k + 1) = c k + 1
  sy : ∀ k, P k = p → s (k + 1) = s k + W k
  an : ∀ k, ¬ P k = p → a (k + 1) = a k
  wn : ∀ k, ¬ P k = p → w (k + 1) = w k
  cn : ∀ k, ¬ P k = p → c (k + 1) = c k
  sn : ∀ k, ¬ P k = p → s (k + 1) = s k
  al : ∀ k, (a k).length = c k
  wl : ∀ k, (w k).length = c k
  cl : ∀ k, c k ≤ k
  sb : ∀ k, k ≤ n → 0 ≤ s k ∧ s k ≤ 9007199254740992
  ae : a n = (atN P n p).map dN
  we : w n = (wN P W n p).map dI
  ce : c n = (atN P n p).length
  se : s n = (wN P W n p).sum
theorem grp {A : Int} {P W : Nat → Int} {n : Nat} (g : GoodN A P W n) (p : Int) : ∃ a w c s, GrpI P W p n a w c s := by
  have h1 : ∀ k, P k = p → atN P (k + 1) p = atN P k p ++ [k] := fun k h => by rw [atN_step, if_pos h]
  have h2 : ∀ k, P k = p → wN P W (k + 1) p = wN P W k p ++ [W k] := fun k h => by rw [wN_step, if_pos h]
  have h3 : ∀ k, ¬ P k = p → atN P (k + 1) p = atN P k p := fun k h => by rw [atN_step, if_neg h]
  have h4 : ∀ k, ¬ P k = p → wN P W (k + 1) p = wN P W k p := fun k h => by rw [wN_step, if_neg h]
  refine ⟨fun k => (atN P k p).map dN, fun k => (wN P W k p).map dI, fun k => (atN P k p).length, fun k => (wN P W k p).sum, rfl, rfl, rfl, rfl, fun k h => ?_, fun k h => ?_, fun k h => ?_, fun k h => ?_, fun k h => ?_, fun k h => ?_, fun k h => ?_, fun k h => ?_, fun k => by simp, fun k => by simp [wN_len], fun k => atN_len p, fun k hk => ?_, rfl, rfl, rfl, rfl⟩
  · simp only [h1 k h, List.map_append]; rfl
  · simp only [h2 k h, List.map_append]; rfl
  · simp only [h1 k h, List.length_append]; rfl
  · simp only [h2 k h, List.sum_append]; simp
  · simp only [h3 k h]
  · simp only [h4 k h]
  · simp only [h3 k h]
  · simp only [h4 k h]
  · have g' : GoodN A P W k := ⟨g.A0, by have := g.n8; omega, fun i hi => g.w0 i (by omega), fun i hi => g.wb i (by omega)⟩
    exact (wN_ok g' p).2.2
/-- A group's parts, as they are paid. -/
structure PrtI (A : Int) (P W : Nat → Int) (n : Nat) (p : Int) (o : Nat → Int) (ats : List Nat) (pp : List Int) (O2 : Nat → Nat → Int) (S2 : Nat → Int) : Prop where
  len : pp.length = ats.length
  lt : ∀ k (h : k < ats.length), ats[k] < n
  O0 : O2 0 = o
  S0 : S2 0 = 0
  On : ∀ k (h : k < ats.length) (h' : k < pp.length), upd (O2 k) ats[k] pp[k] = O2 (k + 1)
  Sn : ∀ k (h' : k < pp.length), S2 (k + 1) = S2 k + pp[k]
  Sb : ∀ k, 0 ≤ S2 k ∧ S2 k ≤ pp.sum
  pb : ∀ k (h' : k < pp.length), 0 ≤ pp[k]
  Oe : O2 ats.length = oG (outN A P W n) o ats ats.length
  Se : S2 ats.length = pp.sum
theorem prt {A : Int} {P W : Nat → Int} {n : Nat} (g : GoodN A P W n) (p : Int) (o : Nat → Int) : ∃ O2 S2, PrtI A P W n p o (atN P n p) (pN A P W n p) O2 S2 := by
  obtain ⟨h1, h2, h3⟩ := pN_ok g p
  have h0 : ∀ x ∈ pN A P W n p, 0 ≤ x := fun x hx => by
    obtain ⟨j, hj, rfl⟩ := List.getElem_of_mem hx
    exact (h2 j hj (by rw [wN_len, ← h1]; exact hj)).1
  refine ⟨oG (outN A P W n) o (atN P n p), fun k => ((pN A P W n p).take k).sum, h1, fun k h => (atN_mem.1 (List.getElem_mem h)).1, oG_zero _ _ _, rfl, fun k h h' => ?_, fun k h' => sum_take h', fun k => ⟨?_, sum_take_le h0 k⟩, fun k h' => h0 _ (List.getElem_mem h'), rfl, ?_⟩
  · have : (pN A P W n p)[k] = outN A P W n (atN P n p)[k] := by simp only [← outs g p, List.getElem_map]
    rw [this]; exact oG_step _ _ h
  · exact sum_nonneg fun x hx => h0 x (List.mem_of_mem_take hx)
  · show ((pN A P W n p).take _).sum = _
    rw [← h1, List.take_of_length_le (Nat.le_refl _)]
set_option maxHeartbeats 40000000 in
theorem serve_ok (net prot : Int) (l : List Ord) (hl : l.length ≤ 1000000) : Gives Try.prog 11 [.d (dI net), .d (dI prot), .d (encOs l)] (.tup [.d (.list 1 (srvL net prot l)), .d (dI (chkE net prot l))]) := by
  have hck := check_ok net prot l (by omega)
  unfold srvL
  have hgd := chk_good (net := net) (prot := prot) (l := l)
  have hmx := max0 (net - prot)
  obtain ⟨A, hA⟩ : ∃ A, at0 (net - prot) = A := ⟨_, rfl⟩
  obtain ⟨e, he⟩ : ∃ e, chkE net prot l = e := ⟨_, rfl⟩
  obtain ⟨P, hP⟩ : ∃ P, priF l = P := ⟨_, rfl⟩
  obtain ⟨W, hW⟩ : ∃ W, wantF l = W := ⟨_, rfl⟩
  obtain ⟨n, hn⟩ : ∃ n, l.length = n := ⟨_, rfl⟩
  have hPi : ∀ i (h : i < l.length), P i = l[i].pri := fun i h => by rw [← hP]; unfold priF; rw [List.getElem?_eq_getElem h]; rfl
  have hWi : ∀ i (h : i < l.length), W i = l[i].want := fun i h => by rw [← hW]; unfold wantF; rw [List.getElem?_eq_getElem h]; rfl
  have hpr : n ≤ 12 → _ := fun h => prios_ok l n hn h
  rw [hA] at hmx hgd ⊢
  rw [he] at hgd hck ⊢
  rw [hP] at hgd hpr ⊢
  rw [hW] at hgd ⊢
  rw [hn] at hgd ⊢
  refine Gives.enter tabOk Try.func11 rfl (by show 3 ≤ 100; decide) ?_
  simp only [Try.f11]
  refine WpC.seq (WpC.ops tabOk (r := []) (by simp -implicitDefEqProofs [dN, hn] <;> rfl) rfl ?_)
  refine WpC.seq ?_
  refine WpC.seq ?_
  refine WpC.region ?_
  refine WpO.run tabOk 3 (by simp -implicitDefEqProofs [dN, hn] <;> first | exact ⟨rfl, rfl⟩ | rfl) ?_
  refine WpO.data (by simp) rfl (by simp -implicitDefEqProofs [dN, hn] <;> rfl) (by simp -implicitDefEqProofs [dN, hn] <;> rfl) (by simp -implicitDefEqProofs [dN, hn] <;> rfl) call_16 (by simp) (hck) (by rfl) (by simp -implicitDefEqProofs [dN, hn] <;> rfl) ?_
  refine WpO.run tabOk 1 (by simp -implicitDefEqProofs [dN, hn] <;> first | exact ⟨rfl, rfl⟩ | rfl) ?_
  refine WpO.nil ?_
  refine WpC.seq (WpC.ops tabOk (r := []) (by simp -implicitDefEqProofs [dN, hn] <;> rfl) rfl ?_)
  refine WpC.condD (¬ e = 0) (by simp -implicitDefEqProofs [dN, hn]) (fun d26 => ?_) (fun d26 => ?_)
  · refine WpC.seq (WpC.ops tabOk (r := []) (by simp -implicitDefEqProofs [dN, hn, d26] <;> rfl) rfl ?_)
    refine WpC.ret ?_
    try simp only [blockQ, seqQ]
    refine retD_i (by simp -implicitDefEqProofs [dN, hn, d26] <;> rfl) (by simp -implicitDefEqProofs [dN, hn, d26] <;> rfl) ?_
    simp [d26]
  · have he0 : e = 0 := Classical.not_not.1 d26
    obtain ⟨g, hall, hnet, hprot⟩ := hgd he0
    have hA2 : A ≤ 2251799813685248 := by rw [← hA]; unfold at0; split <;> omega
    have hA0 := g.A0
    have hn8 := g.n8
    have w1 : IntKind.i64.wrap (net - prot) = net - prot := wrapI (by omega) (by omega)
    have w2 : n ≤ 8589934592 := by omega
    have w3 : (n : Int) ≤ 8589934592 := by omega
    have hz : List.replicate n (D.int .i64 0) = rowF (fun _ => 0) n := by
      rw [pk_zero (fun _ => 0) n]; exact rowF_ext fun i hi => by simp [pk]
    have hpr := (hpr (by omega)).mono (Q' := fun r S => ∃ h m T O, m ≤ n ∧ r = .sl 0 m ∧ S = [.arr 3 1 (rowF h n)] ∧ SrvI A P W n h m T O) fun r S ⟨h, m, q1, q2, q3, q4⟩ => by
      obtain ⟨T, O, q5⟩ := srv_facts g q4
      exact ⟨h, m, T, O, q1, q2, q3, q5⟩
    refine WpC.skip ?_
    refine WpC.seq (WpC.ops tabOk (r := []) (by simp -implicitDefEqProofs [dN, hn, d26, w1, w2, w3, hz, hmx] <;> rfl) rfl ?_)
    refine WpC.seq (WpC.ops tabOk (r := []) (by simp -implicitDefEqProofs [dN, hn, d26, w1, w2, w3, hz, hmx] <;> rfl) rfl ?_)
    refine WpC.seq ?_
    refine WpC.seq ?_
    refine WpC.region ?_
    refine WpO.run tabOk 1 (by simp -implicitDefEqProofs [dN, hn, d26, w1, w2, w3, hz, hmx] <;> first | exact ⟨rfl, rfl⟩ | rfl) ?_
    refine WpO.callP [] (by simp) rfl (by simp -implicitDefEqProofs [dN, hn, d26, w1, w2, w3, hz, hmx] <;> rfl) (by simp -implicitDefEqProofs [dN, hn, d26, w1, w2, w3, hz, hmx] <;> rfl) call_17 (by simp) (by simp) (by simp) (by simp -implicitDefEqProofs [dN, hn, d26, w1, w2, w3, hz, hmx]) (by simp; rfl) (by simp -implicitDefEqProofs [dN, hn, d26, w1, w2, w3, hz, hmx]) ( hpr) fun r S1 hr => ?_
    obtain ⟨h, m, T, O, hm, rfl, rfl, hI⟩ := hr
    refine ⟨_, by simp -implicitDefEqProofs [dN, hn, d26, w1, w2, w3, hz, hmx] <;> rfl, ?_⟩
    refine WpO.run tabOk 2 (by simp -implicitDefEqProofs [dN, hn, d26, w1, w2, w3, hz, hmx] <;> first | exact ⟨rfl, rfl⟩ | rfl) ?_
    refine WpO.nil ?_
    refine WpC.block ?_
    refine WpC.loopK [2, 10, 36, 37] [9, 38] (m) (() : Unit) (fun k _ => [(9, .d (dI (T k))), (38, .d (.int .i64 k))]) (fun k _ => [.arr 3 1 (rowF (O k) n), .arr 3 1 (rowF h n)]) (fun k _ => True) (by simp -implicitDefEqProofs [dN, hn, d26, w1, w2, w3, hz, hmx] <;> rfl) (Gh.cut' [9, 38, 2, 10, 36, 37] 2 (by simp -implicitDefEqProofs [hI.T0, hmx, w1]) (by simp -implicitDefEqProofs [hI.O0, hz]) rfl (by simp) (by simp) (by simp)) (trivial) ?_
    rintro k ⟨⟩ hk hi
    simp only [List.cons_append, List.nil_append]
    refine WpC.seq (WpC.ops tabOk (r := []) (by simp -implicitDefEqProofs [dN, hn, d26, w1, w2, w3, hz, hmx] <;> rfl) rfl ?_)
    refine WpC.seq (WpC.condD (k < m) (by simp -implicitDefEqProofs [dN, hn, d26, w1, w2, w3, hz, hmx] <;> omega) (fun hlt => ?_) (fun hge => ?_))
    · refine WpC.skip ?_
      obtain ⟨q, rfl⟩ : ∃ q, q = k := ⟨k, rfl⟩
      have hq : q < m := hlt
      have hqn : q < n := by omega
      obtain ⟨p, hp⟩ : ∃ p, h q = p := ⟨_, rfl⟩
      have hqw : IntKind.i64.wrap ((q : Int) + 1) = q + 1 := wrapI (by omega) (by omega)
      obtain ⟨a, w, c, sm, hG⟩ := grp g p
      have hth := hI.th q hq
      have hTb := hI.Tb q
      have hTn := hI.Tn q hq
      have hOn := hI.On q hq
      rw [hp] at hth hTn hOn
      obtain ⟨t, ht⟩ : ∃ t, T q = t := ⟨_, rfl⟩
      obtain ⟨o, ho⟩ : ∃ o, O q = o := ⟨_, rfl⟩
      rw [ht] at hth hTb hTn
      rw [ho] at hOn
      refine WpC.seq ?_
      refine WpC.block ?_
      refine WpC.seq (WpC.ops tabOk (r := []) (by simp -implicitDefEqProofs [dN, hn, d26, w1, w2, w3, hz, hmx, hlt, hq, hqn, hm, hp, hqw, ht, ho] <;> rfl) rfl ?_)
      refine WpC.seq (WpC.ops tabOk (r := []) (by simp -implicitDefEqProofs [dN, hn, d26, w1, w2, w3, hz, hmx, hlt, hq, hqn, hm, hp, hqw, ht, ho] <;> rfl) rfl ?_)
      refine WpC.seq (WpC.ops tabOk (r := []) (by simp -implicitDefEqProofs [dN, hn, d26, w1, w2, w3, hz, hmx, hlt, hq, hqn, hm, hp, hqw, ht, ho] <;> rfl) rfl ?_)
      refine WpC.seq ?_
      refine WpC.gh (Gh.nilArr 3 1 (t := 13) (by simp) (by simp)) ?_
      refine WpC.gh (Gh.nilArr 3 1 (t := 14) (by simp) (by simp)) ?_
      refine WpC.seq (WpC.ops tabOk (r := []) (by simp -implicitDefEqProofs [dN, hn, d26, w1, w2, w3, hz, hmx, hlt, hq, hqn, hm, hp, hqw, ht, ho] <;> rfl) rfl ?_)
      refine WpC.block ?_
      refine WpC.loopK [2, 9, 10, 12, 36, 37, 38, 42, 43] [13, 14, 15, 44] (n) (() : Unit) (fun k _ => [(13, .sl 2 (c k)), (14, .sl 3 (c k)), (15, .d (dI (sm k))), (44, .d (.int .i64 k))]) (fun k _ => [.arr 3 1 (rowF o n), .arr 3 1 (rowF h n), .arr 3 1 (a k), .arr 3 1 (w k)]) (fun k _ => True) (by simp -implicitDefEqProofs [dN, hn, d26, w1, w2, w3, hz, hmx, hlt, hq, hqn, hm, hp, hqw, ht, ho] <;> rfl) (Gh.cut' [13, 14, 15, 44, 2, 9, 10, 12, 36, 37, 38, 42, 43] 4 (by simp -implicitDefEqProofs [hG.c0, hG.s0, hn, ht]) (by simp -implicitDefEqProofs [hG.a0, hG.w0, ho]) rfl (by simp) (by simp) (by simp)) (by simp) ?_
      rintro k ⟨⟩ hk hi
      simp only [List.cons_append, List.nil_append]
      refine WpC.seq (WpC.ops tabOk (r := []) (by simp -implicitDefEqProofs [dN, hn, d26, w1, w2, w3, hz, hmx, hlt, hq, hqn, hm, hp, hqw, ht, ho] <;> rfl) rfl ?_)
      refine WpC.seq (WpC.condD (k < n) (by simp -implicitDefEqProofs [dN, hn, d26, w1, w2, w3, hz, hmx, hlt, hq, hqn, hm, hp, hqw, ht, ho] <;> omega) (fun hlt => ?_) (fun hge => ?_))
      · refine WpC.skip ?_
        have hkl : k < l.length := by omega
        obtain ⟨x, hx⟩ : ∃ x, l[k] = x := ⟨_, rfl⟩
        have hPk := hPi k hkl
        have hWk := hWi k hkl
        rw [hx] at hPk hWk
        have hkw : IntKind.i64.wrap ((k : Int) + 1) = k + 1 := wrapI (by omega) (by omega)
        have hal := hG.al k
        have hwl := hG.wl k
        have hcl := hG.cl k
        have hcs : c k ≤ 8589934591 := by omega
        have hwt := want_ok x
        have hsb := hG.sb (k + 1) (by omega)
        obtain ⟨a1, ha1⟩ : ∃ z, a k = z := ⟨_, rfl⟩
        obtain ⟨w1', hw1⟩ : ∃ z, w k = z := ⟨_, rfl⟩
        obtain ⟨c1, hc1⟩ : ∃ z, c k = z := ⟨_, rfl⟩
        obtain ⟨s1, hs1⟩ : ∃ z, sm k = z := ⟨_, rfl⟩
        rw [ha1, hc1] at hal
        rw [hw1, hc1] at hwl
        rw [hc1] at hcs
        refine WpC.seq ?_
        refine WpC.block ?_
        refine WpC.seq (WpC.ops tabOk (r := []) (by simp -implicitDefEqProofs [dN, hn, d26, w1, w2, w3, hz, hmx, hlt, hq, hqn, hm, hp, hqw, ht, ho, hlt, hkl, hx, hkw, hal, hwl, hcs, ha1, hw1, hc1, hs1] <;> rfl) rfl ?_)
        refine WpC.seq (WpC.ops tabOk (r := []) (by simp -implicitDefEqProofs [dN, hn, d26, w1, w2, w3, hz, hmx, hlt, hq, hqn, hm, hp, hqw, ht, ho, hlt, hkl, hx, hkw, hal, hwl, hcs, ha1, hw1, hc1, hs1] <;> rfl) rfl ?_)
        refine WpC.condD (x.pri = p) (by simp -implicitDefEqProofs [dN, hn, d26, w1, w2, w3, hz, hmx, hlt, hq, hqn, hm, hp, hqw, ht, ho, hlt, hkl, hx, hkw, hal, hwl, hcs, ha1, hw1, hc1, hs1]) (fun d52 => ?_) (fun d52 => ?_)
        · have hpp : P k = p := hPk.trans d52
          have hga := hG.ay k hpp
          have hgw := hG.wy k hpp
          have hgc := hG.cy k hpp
          have hgs := hG.sy k hpp
          rw [hgs] at hsb
          rw [ha1] at hga
          rw [hw1, hWk] at hgw
          rw [hc1] at hgc
          rw [hs1, hWk] at hgs hsb
          have hsw : IntKind.i64.wrap (s1 + x.want) = s1 + x.want := wrapI (by omega) (by omega)
          refine WpC.drawn tabOk (by kernel_rfl) 4 (by simp) ?_
          refine DrO.run (fz := []) 3 (by simp -implicitDefEqProofs [dN, hn, d26, w1, w2, w3, hz, hmx, hlt, hq, hqn, hm, hp, hqw, ht, ho, hlt, hkl, hx, hkw, hal, hwl, hcs, ha1, hw1, hc1, hs1, d52, hsw] <;> first | exact ⟨rfl, rfl, rfl, rfl⟩ | rfl) ?_
          refine DrO.run (fz := []) 3 (by simp -implicitDefEqProofs [dN, hn, d26, w1, w2, w3, hz, hmx, hlt, hq, hqn, hm, hp, hqw, ht, ho, hlt, hkl, hx, hkw, hal, hwl, hcs, ha1, hw1, hc1, hs1, d52, hsw] <;> first | exact ⟨rfl, rfl, rfl, rfl⟩ | rfl) ?_
          refine DrO.data (by simp) rfl (by simp -implicitDefEqProofs [dN, hn, d26, w1, w2, w3, hz, hmx, hlt, hq, hqn, hm, hp, hqw, ht, ho, hlt, hkl, hx, hkw, hal, hwl, hcs, ha1, hw1, hc1, hs1, d52, hsw] <;> rfl) (by simp -implicitDefEqProofs [dN, hn, d26, w1, w2, w3, hz, hmx, hlt, hq, hqn, hm, hp, hqw, ht, ho, hlt, hkl, hx, hkw, hal, hwl, hcs, ha1, hw1, hc1, hs1, d52, hsw] <;> rfl) (by simp -implicitDefEqProofs [dN, hn, d26, w1, w2, w3, hz, hmx, hlt, hq, hqn, hm, hp, hqw, ht, ho, hlt, hkl, hx, hkw, hal, hwl, hcs, ha1, hw1, hc1, hs1, d52, hsw] <;> rfl) call_18 (hwt) (by rfl) (by simp -implicitDefEqProofs [dN, hn, d26, w1, w2, w3, hz, hmx, hlt, hq, hqn, hm, hp, hqw, ht, ho, hlt, hkl, hx, hkw, hal, hwl, hcs, ha1, hw1, hc1, hs1, d52, hsw] <;> rfl) ?_
          refine DrO.run (fz := []) 3 (by simp -implicitDefEqProofs [dN, hn, d26, w1, w2, w3, hz, hmx, hlt, hq, hqn, hm, hp, hqw, ht, ho, hlt, hkl, hx, hkw, hal, hwl, hcs, ha1, hw1, hc1, hs1, d52, hsw] <;> first | exact ⟨rfl, rfl, rfl, rfl⟩ | rfl) ?_
          refine DrO.run (fz := []) 1 (by simp -implicitDefEqProofs [dN, hn, d26, w1, w2, w3, hz, hmx, hlt, hq, hqn, hm, hp, hqw, ht, ho, hlt, hkl, hx, hkw, hal, hwl, hcs, ha1, hw1, hc1, hs1, d52, hsw] <;> first | exact ⟨rfl, rfl, rfl, rfl⟩ | rfl) ?_
          refine DrO.data (by simp) rfl (by simp -implicitDefEqProofs [dN, hn, d26, w1, w2, w3, hz, hmx, hlt, hq, hqn, hm, hp, hqw, ht, ho, hlt, hkl, hx, hkw, hal, hwl, hcs, ha1, hw1, hc1, hs1, d52, hsw] <;> rfl) (by simp -implicitDefEqProofs [dN, hn, d26, w1, w2, w3, hz, hmx, hlt, hq, hqn, hm, hp, hqw, ht, ho, hlt, hkl, hx, hkw, hal, hwl, hcs, ha1, hw1, hc1, hs1, d52, hsw] <;> rfl) (by simp -implicitDefEqProofs [dN, hn, d26, w1, w2, w3, hz, hmx, hlt, hq, hqn, hm, hp, hqw, ht, ho, hlt, hkl, hx, hkw, hal, hwl, hcs, ha1, hw1, hc1, hs1, d52, hsw] <;> rfl) call_18 (hwt) (by rfl) (by simp -implicitDefEqProofs [dN, hn, d26, w1, w2, w3, hz, hmx, hlt, hq, hqn, hm, hp, hqw, ht, ho, hlt, hkl, hx, hkw, hal, hwl, hcs, ha1, hw1, hc1, hs1, d52, hsw] <;> rfl) ?_
          refine DrO.run (fz := []) 3 (by simp -implicitDefEqProofs [dN, hn, d26, w1, w2, w3, hz, hmx, hlt, hq, hqn, hm, hp, hqw, ht, ho, hlt, hkl, hx, hkw, hal, hwl, hcs, ha1, hw1, hc1, hs1, d52, hsw] <;> first | exact ⟨rfl, rfl, rfl, rfl⟩ | rfl) ?_
          refine DrO.run (fz := []) 1 (by simp -implicitDefEqProofs [dN, hn, d26, w1, w2, w3, hz, hmx, hlt, hq, hqn, hm, hp, hqw, ht, ho, hlt, hkl, hx, hkw, hal, hwl, hcs, ha1, hw1, hc1, hs1, d52, hsw] <;> first | exact ⟨rfl, rfl, rfl, rfl⟩ | rfl) ?_
          refine DrO.nil ⟨by kernel_rfl, ?_⟩
          refine WpC.ops tabOk (r := []) (by simp -implicitDefEqProofs [dN, hn, d26, w1, w2, w3, hz, hmx, hlt, hq, hqn, hm, hp, hqw, ht, ho, hlt, hkl, hx, hkw, hal, hwl, hcs, ha1, hw1, hc1, hs1, d52, hsw] <;> rfl) rfl ?_
          exact ⟨hlt, (), trivial, Gh.pick [13, 14, 15, 44, 2, 9, 10, 12, 36, 37, 38, 42, 43] [0, 1, 6, 8] (by simp -implicitDefEqProofs [dN, hn, d26, w1, w2, w3, hz, hmx, hlt, hq, hqn, hm, hp, hqw, ht, ho, hlt, hkl, hx, hkw, hal, hwl, hcs, ha1, hw1, hc1, hs1, d52, hsw, hga, hgw, hgc, hgs]; rfl) (by simp -implicitDefEqProofs [dN, hn, d26, w1, w2, w3, hz, hmx, hlt, hq, hqn, hm, hp, hqw, ht, ho, hlt, hkl, hx, hkw, hal, hwl, hcs, ha1, hw1, hc1, hs1, d52, hsw, hga, hgw, hgc, hgs]) (by simp) (by simp) (by simp; rfl) (by simp -implicitDefEqProofs [dN, hn, d26, w1, w2, w3, hz, hmx, hlt, hq, hqn, hm, hp, hqw, ht, ho, hlt, hkl, hx, hkw, hal, hwl, hcs, ha1, hw1, hc1, hs1, d52, hsw, hga, hgw, hgc, hgs]) (by simp)⟩
        · have hpp : ¬ P k = p := fun z => d52 (hPk.symm.trans z)
          have hga := hG.an k hpp
          have hgw := hG.wn k hpp
          have hgc := hG.cn k hpp
          have hgs := hG.sn k hpp
          rw [ha1] at hga
          rw [hw1] at hgw
          rw [hc1] at hgc
          rw [hs1] at hgs
          refine WpC.skip ?_
          refine WpC.ops tabOk (r := []) (by simp -implicitDefEqProofs [dN, hn, d26, w1, w2, w3, hz, hmx, hlt, hq, hqn, hm, hp, hqw, ht, ho, hlt, hkl, hx, hkw, hal, hwl, hcs, ha1, hw1, hc1, hs1, d52] <;> rfl) rfl ?_
          exact ⟨hlt, (), trivial, Gh.cut' [13, 14, 15, 44, 2, 9, 10, 12, 36, 37, 38, 42, 43] 4 (by simp -implicitDefEqProofs [dN, hn, d26, w1, w2, w3, hz, hmx, hlt, hq, hqn, hm, hp, hqw, ht, ho, hlt, hkl, hx, hkw, hal, hwl, hcs, ha1, hw1, hc1, hs1, d52, hga, hgw, hgc, hgs]) (by simp -implicitDefEqProofs [dN, hn, d26, w1, w2, w3, hz, hmx, hlt, hq, hqn, hm, hp, hqw, ht, ho, hlt, hkl, hx, hkw, hal, hwl, hcs, ha1, hw1, hc1, hs1, d52, hga, hgw, hgc, hgs]) rfl (by simp) (by simp) (by simp)⟩
      · refine WpC.exit ?_
        have hkn : n = k := by omega
        subst hkn
        refine WpC.seq (WpC.ops tabOk (r := []) (by simp -implicitDefEqProofs [dN, hn, d26, w1, w2, w3, hz, hmx, hlt, hq, hqn, hm, hp, hqw, ht, ho] <;> rfl) rfl ?_)
        refine WpC.seq ?_
        have hae := hG.ae
        have hwe := hG.we
        have hce := hG.ce
        have hse := hG.se
        obtain ⟨O2, S2, hR⟩ := prt g p o
        have hwok := wN_ok g p
        have hpn : pN A P W n p = if t < (wN P W n p).sum then spS t (wN P W n p) else wN P W n p := by unfold pN; rw [hth]
        have hsE : t < (wN P W n p).sum → spE t (wN P W n p) = 0 := fun z => hth ▸ pN_spE g (hth.symm ▸ z)
        have hps := (pN_ok g p).2.2
        rw [hth] at hps
        have hOe := hOn _ rfl
        obtain ⟨ats, hats⟩ : ∃ z, atN P n p = z := ⟨_, rfl⟩
        obtain ⟨ws, hws⟩ : ∃ z, wN P W n p = z := ⟨_, rfl⟩
        obtain ⟨pp, hpp⟩ : ∃ z, pN A P W n p = z := ⟨_, rfl⟩
        rw [hats] at hae hce hR hOe
        rw [hws] at hwe hse hpn hsE hps hwok
        rw [hpp] at hR hpn hTn hps
        have hal := hG.al n
        have hwl := hG.wl n
        rw [hce] at hal hwl
        have hwl2 : ws.length = ats.length := by have := hwl; rw [hwe] at this; simpa using this
        rw [hae, hwe, hce, hse]
        have hat8 : ats.length ≤ 8 := by rw [← hats]; exact Nat.le_trans (atN_len p) hn8
        refine WpC.gh (Gh.frz [2, 3]) ?_
        refine WpC.gh (Gh.view (t := 18) (x := .sl 3 ats.length) (y := .d (.list 1 (ws.map dI))) (by simp) (by simp -implicitDefEqProofs [hwl2])) ?_
        refine WpC.gh (Gh.view (t := 14) (x := .sl 3 ats.length) (y := .d (.list 1 (ws.map dI))) (by simp) (by simp -implicitDefEqProofs [hwl2])) ?_
        refine WpC.gh (Gh.view (t := 13) (x := .sl 2 ats.length) (y := .d (.list 1 (ats.map dN))) (by simp) (by simp -implicitDefEqProofs)) ?_
        have hat64 : (ats.length : Int) ≤ 8 := by omega
        refine WpC.seq (WpC.ops tabOk (r := []) (by simp -implicitDefEqProofs [dN, hn, d26, w1, w2, w3, hz, hmx, hlt, hq, hqn, hm, hp, hqw, ht, ho, hwl2] <;> rfl) rfl ?_)
        refine WpC.condD (t < ws.sum) (by simp -implicitDefEqProofs [dN, hn, d26, w1, w2, w3, hz, hmx, hlt, hq, hqn, hm, hp, hqw, ht, ho, hwl2]) (fun d70 => ?_) (fun d70 => ?_)
        · have hpp2 : pp = spS t ws := by rw [hpn, if_pos d70]
          have hsp := splitL_ok t ws (by unfold in64; omega) (fun x hx => by have := hwok.2.1 x hx; unfold in64; omega) (by omega)
          rw [hsE d70, ← hpp2] at hsp
          rw [if_pos d70] at hps
          refine WpC.region ?_
          refine WpO.run tabOk 2 (by simp -implicitDefEqProofs [dN, hn, d26, w1, w2, w3, hz, hmx, hlt, hq, hqn, hm, hp, hqw, ht, ho, hwl2, d70] <;> first | exact ⟨rfl, rfl⟩ | rfl) ?_
          refine WpO.data (by simp) rfl (by simp -implicitDefEqProofs [dN, hn, d26, w1, w2, w3, hz, hmx, hlt, hq, hqn, hm, hp, hqw, ht, ho, hwl2, d70] <;> rfl) (by simp -implicitDefEqProofs [dN, hn, d26, w1, w2, w3, hz, hmx, hlt, hq, hqn, hm, hp, hqw, ht, ho, hwl2, d70] <;> rfl) (by simp -implicitDefEqProofs [dN, hn, d26, w1, w2, w3, hz, hmx, hlt, hq, hqn, hm, hp, hqw, ht, ho, hwl2, d70] <;> rfl) call_19 (by simp) (hsp) (by rfl) (by simp -implicitDefEqProofs [dN, hn, d26, w1, w2, w3, hz, hmx, hlt, hq, hqn, hm, hp, hqw, ht, ho, hwl2, d70] <;> rfl) ?_
          refine WpO.run tabOk 4 (by simp -implicitDefEqProofs [dN, hn, d26, w1, w2, w3, hz, hmx, hlt, hq, hqn, hm, hp, hqw, ht, ho, hwl2, d70] <;> first | exact ⟨rfl, rfl⟩ | rfl) ?_
          refine WpO.nil ?_
          refine WpC.seq (WpC.ops tabOk (r := []) (by simp -implicitDefEqProofs [dN, hn, d26, w1, w2, w3, hz, hmx, hlt, hq, hqn, hm, hp, hqw, ht, ho, hwl2, d70] <;> rfl) rfl ?_)
          refine WpC.block ?_
          refine WpC.loopK [2, 10, 18, 36, 37, 38, 77, 78] [9, 79] (ats.length) (() : Unit) (fun k _ => [(9, .d (dI (t - S2 k))), (79, .d (.int .i64 k))]) (fun k _ => [.arr 3 1 (rowF (O2 k) n), .arr 3 1 (rowF h n)]) (fun k _ => True) (by simp -implicitDefEqProofs [dN, hn, d26, w1, w2, w3, hz, hmx, hlt, hq, hqn, hm, hp, hqw, ht, ho, hwl2, d70] <;> rfl) (Gh.cut' [9, 79, 2, 10, 18, 36, 37, 38, 77, 78] 2 (by simp -implicitDefEqProofs [hR.S0]) (by simp -implicitDefEqProofs [hR.O0]) rfl (by simp) (by simp) (by simp)) (by simp) ?_
          rintro k ⟨⟩ hk hi
          simp only [List.cons_append, List.nil_append]
          refine WpC.seq (WpC.ops tabOk (r := []) (by simp -implicitDefEqProofs [dN, hn, d26, w1, w2, w3, hz, hmx, hlt, hq, hqn, hm, hp, hqw, ht, ho, hwl2, d70] <;> rfl) rfl ?_)
          refine WpC.seq (WpC.condD (k < ats.length) (by simp -implicitDefEqProofs [dN, hn, d26, w1, w2, w3, hz, hmx, hlt, hq, hqn, hm, hp, hqw, ht, ho, hwl2, d70] <;> omega) (fun hlt => ?_) (fun hge => ?_))
          · refine WpC.skip ?_
            have hkp : k < pp.length := by rw [hR.len]; exact hlt
            obtain ⟨x, hx⟩ : ∃ x, pp[k] = x := ⟨_, rfl⟩
            obtain ⟨y, hy⟩ : ∃ y, ats[k] = y := ⟨_, rfl⟩
            have hyn := hR.lt k hlt
            have hON := hR.On k hlt hkp
            have hSN := hR.Sn k hkp
            have hSb := hR.Sb k
            have hSb2 := hR.Sb (k + 1)
            have hxb := hR.pb k hkp
            rw [hx, hy] at hON
            rw [hx] at hSN hxb
            rw [hy] at hyn
            rw [hSN] at hSb2
            have hsw : IntKind.i64.wrap (t - S2 k - x) = t - S2 (k + 1) := by rw [hSN, wrapI (by omega) (by omega)]; omega
            have hkw : IntKind.i64.wrap ((k : Int) + 1) = k + 1 := wrapI (by omega) (by omega)
            refine WpC.seq ?_
            refine WpC.block ?_
            refine WpC.seq (WpC.ops tabOk (r := []) (by simp -implicitDefEqProofs [dN, hn, d26, w1, w2, w3, hz, hmx, hlt, hq, hqn, hm, hp, hqw, ht, ho, hwl2, d70, hlt, hkp, hx, hy, hyn, hsw, hkw] <;> rfl) rfl ?_)
            refine WpC.seq (WpC.ops tabOk (r := []) (by simp -implicitDefEqProofs [dN, hn, d26, w1, w2, w3, hz, hmx, hlt, hq, hqn, hm, hp, hqw, ht, ho, hwl2, d70, hlt, hkp, hx, hy, hyn, hsw, hkw] <;> rfl) rfl ?_)
            refine WpC.ops tabOk (r := []) (by simp -implicitDefEqProofs [dN, hn, d26, w1, w2, w3, hz, hmx, hlt, hq, hqn, hm, hp, hqw, ht, ho, hwl2, d70, hlt, hkp, hx, hy, hyn, hsw, hkw] <;> rfl) rfl ?_
            refine WpC.ops tabOk (r := []) (by simp -implicitDefEqProofs [dN, hn, d26, w1, w2, w3, hz, hmx, hlt, hq, hqn, hm, hp, hqw, ht, ho, hwl2, d70, hlt, hkp, hx, hy, hyn, hsw, hkw] <;> rfl) rfl ?_
            exact ⟨hlt, (), trivial, Gh.cut' [9, 79, 2, 10, 18, 36, 37, 38, 77, 78] 2 (by simp -implicitDefEqProofs [dN, hn, d26, w1, w2, w3, hz, hmx, hlt, hq, hqn, hm, hp, hqw, ht, ho, hwl2, d70, hlt, hkp, hx, hy, hyn, hsw, hkw, hON, dN]) (by simp -implicitDefEqProofs [dN, hn, d26, w1, w2, w3, hz, hmx, hlt, hq, hqn, hm, hp, hqw, ht, ho, hwl2, d70, hlt, hkp, hx, hy, hyn, hsw, hkw, hON, dN]) rfl (by simp) (by simp) (by simp)⟩
          · refine WpC.exit ?_
            have hkn : k = ats.length := by omega
            subst hkn
            have hOE2 : rowF (O2 ats.length) n = rowF (O (q + 1)) n := by rw [hR.Oe]; exact hOe
            have hSE2 : t - S2 ats.length = T (q + 1) := by rw [hR.Se]; exact hTn
            refine WpC.ops tabOk (r := []) (by simp -implicitDefEqProofs [dN, hn, d26, w1, w2, w3, hz, hmx, hlt, hq, hqn, hm, hp, hqw, ht, ho, hwl2, d70] <;> rfl) rfl ?_
            exact ⟨hlt, (), trivial, Gh.cut' [9, 38, 2, 10, 36, 37] 2 (by simp -implicitDefEqProofs [dN, hn, d26, w1, w2, w3, hz, hmx, hlt, hq, hqn, hm, hp, hqw, ht, ho, hwl2, d70, hOE2, hSE2]) (by simp -implicitDefEqProofs [dN, hn, d26, w1, w2, w3, hz, hmx, hlt, hq, hqn, hm, hp, hqw, ht, ho, hwl2, d70, hOE2, hSE2]) rfl (by simp) (by simp) (by simp)⟩
        · have hpp2 : pp = ws := by rw [hpn, if_neg d70]
          rw [if_neg d70] at hps
          subst hpp2
          refine WpC.skip ?_
          refine WpC.seq (WpC.ops tabOk (r := []) (by simp -implicitDefEqProofs [dN, hn, d26, w1, w2, w3, hz, hmx, hlt, hq, hqn, hm, hp, hqw, ht, ho, hwl2, d70] <;> rfl) rfl ?_)
          refine WpC.block ?_
          refine WpC.loopK [2, 10, 18, 36, 37, 38, 77, 78] [9, 79] (ats.length) (() : Unit) (fun k _ => [(9, .d (dI (t - S2 k))), (79, .d (.int .i64 k))]) (fun k _ => [.arr 3 1 (rowF (O2 k) n), .arr 3 1 (rowF h n)]) (fun k _ => True) (by simp -implicitDefEqProofs [dN, hn, d26, w1, w2, w3, hz, hmx, hlt, hq, hqn, hm, hp, hqw, ht, ho, hwl2, d70] <;> rfl) (Gh.cut' [9, 79, 2, 10, 18, 36, 37, 38, 77, 78] 2 (by simp -implicitDefEqProofs [hR.S0]) (by simp -implicitDefEqProofs [hR.O0]) rfl (by simp) (by simp) (by simp)) (by simp) ?_
          rintro k ⟨⟩ hk hi
          simp only [List.cons_append, List.nil_append]
          refine WpC.seq (WpC.ops tabOk (r := []) (by simp -implicitDefEqProofs [dN, hn, d26, w1, w2, w3, hz, hmx, hlt, hq, hqn, hm, hp, hqw, ht, ho, hwl2, d70] <;> rfl) rfl ?_)
          refine WpC.seq (WpC.condD (k < ats.length) (by simp -implicitDefEqProofs [dN, hn, d26, w1, w2, w3, hz, hmx, hlt, hq, hqn, hm, hp, hqw, ht, ho, hwl2, d70] <;> omega) (fun hlt => ?_) (fun hge => ?_))
          · refine WpC.skip ?_
            have hkp : k < pp.length := by rw [hR.len]; exact hlt
            obtain ⟨x, hx⟩ : ∃ x, pp[k] = x := ⟨_, rfl⟩
            obtain ⟨y, hy⟩ : ∃ y, ats[k] = y := ⟨_, rfl⟩
            have hyn := hR.lt k hlt
            have hON := hR.On k hlt hkp
            have hSN := hR.Sn k hkp
            have hSb := hR.Sb k
            have hSb2 := hR.Sb (k + 1)
            have hxb := hR.pb k hkp
            rw [hx, hy] at hON
            rw [hx] at hSN hxb
            rw [hy] at hyn
            rw [hSN] at hSb2
            have hsw : IntKind.i64.wrap (t - S2 k - x) = t - S2 (k + 1) := by rw [hSN, wrapI (by omega) (by omega)]; omega
            have hkw : IntKind.i64.wrap ((k : Int) + 1) = k + 1 := wrapI (by omega) (by omega)
            refine WpC.seq ?_
            refine WpC.block ?_
            refine WpC.seq (WpC.ops tabOk (r := []) (by simp -implicitDefEqProofs [dN, hn, d26, w1, w2, w3, hz, hmx, hlt, hq, hqn, hm, hp, hqw, ht, ho, hwl2, d70, hlt, hkp, hx, hy, hyn, hsw, hkw] <;> rfl) rfl ?_)
            refine WpC.seq (WpC.ops tabOk (r := []) (by simp -implicitDefEqProofs [dN, hn, d26, w1, w2, w3, hz, hmx, hlt, hq, hqn, hm, hp, hqw, ht, ho, hwl2, d70, hlt, hkp, hx, hy, hyn, hsw, hkw] <;> rfl) rfl ?_)
            refine WpC.ops tabOk (r := []) (by simp -implicitDefEqProofs [dN, hn, d26, w1, w2, w3, hz, hmx, hlt, hq, hqn, hm, hp, hqw, ht, ho, hwl2, d70, hlt, hkp, hx, hy, hyn, hsw, hkw] <;> rfl) rfl ?_
            refine WpC.ops tabOk (r := []) (by simp -implicitDefEqProofs [dN, hn, d26, w1, w2, w3, hz, hmx, hlt, hq, hqn, hm, hp, hqw, ht, ho, hwl2, d70, hlt, hkp, hx, hy, hyn, hsw, hkw] <;> rfl) rfl ?_
            exact ⟨hlt, (), trivial, Gh.cut' [9, 79, 2, 10, 18, 36, 37, 38, 77, 78] 2 (by simp -implicitDefEqProofs [dN, hn, d26, w1, w2, w3, hz, hmx, hlt, hq, hqn, hm, hp, hqw, ht, ho, hwl2, d70, hlt, hkp, hx, hy, hyn, hsw, hkw, hON, dN]) (by simp -implicitDefEqProofs [dN, hn, d26, w1, w2, w3, hz, hmx, hlt, hq, hqn, hm, hp, hqw, ht, ho, hwl2, d70, hlt, hkp, hx, hy, hyn, hsw, hkw, hON, dN]) rfl (by simp) (by simp) (by simp)⟩
          · refine WpC.exit ?_
            have hkn : k = ats.length := by omega
            subst hkn
            have hOE2 : rowF (O2 ats.length) n = rowF (O (q + 1)) n := by rw [hR.Oe]; exact hOe
            have hSE2 : t - S2 ats.length = T (q + 1) := by rw [hR.Se]; exact hTn
            refine WpC.ops tabOk (r := []) (by simp -implicitDefEqProofs [dN, hn, d26, w1, w2, w3, hz, hmx, hlt, hq, hqn, hm, hp, hqw, ht, ho, hwl2, d70] <;> rfl) rfl ?_
            exact ⟨hlt, (), trivial, Gh.cut' [9, 38, 2, 10, 36, 37] 2 (by simp -implicitDefEqProofs [dN, hn, d26, w1, w2, w3, hz, hmx, hlt, hq, hqn, hm, hp, hqw, ht, ho, hwl2, d70, hOE2, hSE2]) (by simp -implicitDefEqProofs [dN, hn, d26, w1, w2, w3, hz, hmx, hlt, hq, hqn, hm, hp, hqw, ht, ho, hwl2, d70, hOE2, hSE2]) rfl (by simp) (by simp) (by simp)⟩
    · refine WpC.exit ?_
      have hkm : m = k := by omega
      subst hkm
      have hOm := hI.Om
      refine WpC.seq (WpC.ops tabOk (r := []) (by simp -implicitDefEqProofs [dN, hn, d26, w1, w2, w3, hz, hmx] <;> rfl) rfl ?_)
      refine WpC.ret ?_
      try simp only [blockQ, seqQ]
      refine retD_i (by simp -implicitDefEqProofs [dN, hn, d26, w1, w2, w3, hz, hmx] <;> rfl) (by simp -implicitDefEqProofs [dN, hn, d26, w1, w2, w3, hz, hmx] <;> rfl) ?_
      rw [he0]
      simp [hOm]
end Go.Proofs.Ytaobnhenjldjeaa.Pay
