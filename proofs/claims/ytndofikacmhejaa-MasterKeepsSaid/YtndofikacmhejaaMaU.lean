/- Law MasterKeeps. No statement of the seed is proved here. -/
import Derived.Test.YtndofikacmhejaaMaT
namespace Go.Proofs.Ytndofikacmhejaa.Pay
open Go Go.RowKit
set_option linter.unusedVariables false
set_option linter.unusedSimpArgs false

section
variable {m : List Per} {D : List Act}
theorem chg_at (h : Inv m D) {id : Int} (hi : -9223372036854775808 ≤ id ∧ id ≤ 9223372036854775807) {r : Rec} (he : (changeS m id r).2 = 0) : ∃ k, ∃ hk : k < m.length, m[k].id = id ∧ (changeS m id r).1 = m.set k { m[k] with recs := recS m[k].recs r } ∧ ¬ r.frm < m[k].hired ∧ 22800 ≤ r.frm ∧ r.frm ≤ 35999 := by
  unfold changeS at he ⊢
  split at he
  · simp at he
  · rename_i hbad
    rw [if_neg hbad]
    split at he
    · simp at he
    · rename_i hth
      rw [if_neg hth]
      split at he
      · simp at he
      · rename_i hfr
        rw [if_neg hfr]
        obtain ⟨hk, hki, hkg⟩ := pOf_at h hi (by simpa using hth)
        rw [hkg] at hfr ⊢
        exact ⟨_, hk, hki, rfl, hfr, (hire_bad (by simpa using hbad)).2⟩
theorem atS_congr {l l' : List Per} {id when : Int} (h : findS l id = findS l' id) : atS l id when = atS l' id when := by unfold atS; rw [h]
theorem findS_none {l : List Per} (h : Srt l) {id : Int} (hi : -9223372036854775808 ≤ id ∧ id ≤ 9223372036854775807) (hn : ∀ p ∈ l, p.id ≠ id) : findS l id = (noPer, 5) := by
  unfold findS; rw [h.none hi hn]; rfl

theorem keeps (h : Inv m D) {a : Int} (hi : -9223372036854775808 ≤ a ∧ a ≤ 9223372036854775807) {r : Rec} {id : Int} (hid : -9223372036854775808 ≤ id ∧ id ≤ 9223372036854775807) {when : Int} (hc : (changeS m a r).2 ≠ 0 ∨ id ≠ a ∨ when < r.frm) (hsame : (changeS m a r).2 ≠ 0 → (changeS m a r).1 = m) :
    atS m id when = atS (changeS m a r).1 id when := by
  by_cases he : (changeS m a r).2 = 0
  · obtain ⟨k, hk, hki, hn, hfr, hr⟩ := chg_at h hi he
    have hc' : id ≠ a ∨ when < r.frm := hc.resolve_left (fun q => q he)
    obtain ⟨s1, s2⟩ := h.srt.set hk (p := { m[k] with recs := recS m[k].recs r }) rfl
    rw [hn]
    by_cases hia : id = a
    · have hw := hc'.resolve_left (fun q => q hia)
      subst hia
      have hpm : m[k] ∈ m := List.getElem_mem hk
      have f1 : findS m id = (m[k], 0) := by rw [← hki]; exact h.srt.find hpm
      have hpn : { m[k] with recs := recS m[k].recs r } ∈ m.set k { m[k] with recs := recS m[k].recs r } := by
        rw [List.mem_iff_getElem]; exact ⟨k, by simpa using hk, by simp⟩
      have f2 : findS (m.set k { m[k] with recs := recS m[k].recs r }) id = ({ m[k] with recs := recS m[k].recs r }, 0) := by
        have := s1.find hpn
        rw [← hki]; exact this
      unfold atS
      rw [f1, f2]
      simp only
      by_cases hx : when < m[k].hired ∨ (m[k].gone ≠ 0 ∧ m[k].gone ≤ when)
      · rw [if_pos (.inr hx), if_pos (.inr hx)]
      · have hy : ¬ ((0 : Int) ≠ 0 ∨ when < m[k].hired ∨ (m[k].gone ≠ 0 ∧ m[k].gone ≤ when)) := by
          intro q; rcases q with q | q
          · exact q rfl
          · exact hx q
        rw [if_neg hy, if_neg hy]
        have hg := h.good _ hpm
        obtain ⟨A, B, C, e1, e2, hA, hC, hB⟩ := recS_eq hg.srt hr
        obtain ⟨r0, rs, h0, h1⟩ := hg.hd
        rw [e2]
        have hBC : ∀ x ∈ B ++ C, when < x.frm := fun x hx => by
          rcases List.mem_append.1 hx with hx | hx
          · rcases hB with rfl | ⟨y, rfl, hy⟩
            · simp at hx
            · simp at hx; subst hx; omega
          · have := hC x hx; omega
        have hrC : ∀ x ∈ r :: C, when < x.frm := fun x hx => by
          rcases List.mem_cons.1 hx with rfl | hx
          · exact hw
          · have := hC x hx; omega
        cases A with
        | nil =>
          exfalso
          rw [List.nil_append] at e1
          have := hBC r0 (by rw [← e1, h0]; simp)
          have : ¬ when < m[k].hired := fun q => hx (.inl q)
          omega
        | cons x A =>
          rw [e1, List.append_assoc, List.foldl_append, fold_above hBC, List.foldl_append, fold_above hrC]
          rfl
    · refine atS_congr ?_
      by_cases hp : ∃ p ∈ m, p.id = id
      · obtain ⟨p, hp, rfl⟩ := hp
        obtain ⟨j, hj, rfl⟩ := List.getElem_of_mem hp
        have hjk : k ≠ j := fun e => by subst e; exact hia hki
        rw [h.srt.find hp]
        have : m[j] ∈ m.set k { m[k] with recs := recS m[k].recs r } := by
          rw [List.mem_iff_getElem]; exact ⟨j, by simpa using hj, by rw [List.getElem_set_ne hjk]⟩
        exact (s1.find this).symm
      · have hn1 : ∀ p ∈ m, p.id ≠ id := fun p hp' he => hp ⟨p, hp', he⟩
        have hn2 : ∀ p ∈ m.set k { m[k] with recs := recS m[k].recs r }, p.id ≠ id := fun p hp' he => by
          rcases mem_set hk hp' with rfl | hm
          · exact hia (he.symm.trans hki)
          · exact hn1 p hm he
        rw [findS_none h.srt hid hn1, findS_none s1 hid hn2]
  · rw [hsame he]

theorem counts (h : Inv m D) {a : Int} (hi : -9223372036854775808 ≤ a ∧ a ≤ 9223372036854775807) {r : Rec} (he : (changeS m a r).2 = 0) {when : Int} (hw : ¬ when < r.frm) :
    (atS m a when).2 = (atS (changeS m a r).1 a when).2 ∧
    (if (findS (changeS m a r).1 a).1.gone ≠ 0 ∧ (findS (changeS m a r).1 a).1.gone ≤ r.frm then (atS (changeS m a r).1 a r.frm).2 = 5 else atS (changeS m a r).1 a r.frm = (r, 0)) := by
  obtain ⟨k, hk, hki, hn, hfr, hr⟩ := chg_at h hi he
  obtain ⟨s1, s2⟩ := h.srt.set hk (p := { m[k] with recs := recS m[k].recs r }) rfl
  rw [hn]
  have hpm : m[k] ∈ m := List.getElem_mem hk
  have f1 : findS m a = (m[k], 0) := by rw [← hki]; exact h.srt.find hpm
  have hpn : { m[k] with recs := recS m[k].recs r } ∈ m.set k { m[k] with recs := recS m[k].recs r } := by
    rw [List.mem_iff_getElem]; exact ⟨k, by simpa using hk, by simp⟩
  have f2 : findS (m.set k { m[k] with recs := recS m[k].recs r }) a = ({ m[k] with recs := recS m[k].recs r }, 0) := by
    have := s1.find hpn
    rw [← hki]; exact this
  unfold atS
  rw [f1, f2]
  simp only
  refine ⟨?_, ?_⟩
  · by_cases hx : when < m[k].hired ∨ (m[k].gone ≠ 0 ∧ m[k].gone ≤ when)
    · rw [if_pos (.inr hx), if_pos (.inr hx)]
    · have hy : ¬ ((0 : Int) ≠ 0 ∨ when < m[k].hired ∨ (m[k].gone ≠ 0 ∧ m[k].gone ≤ when)) := by
        intro q; rcases q with q | q
        · exact q rfl
        · exact hx q
      rw [if_neg hy, if_neg hy]
  · by_cases hg : m[k].gone ≠ 0 ∧ m[k].gone ≤ r.frm
    · rw [if_pos hg, if_pos (.inr (.inr hg))]
    · have hy : ¬ ((0 : Int) ≠ 0 ∨ r.frm < m[k].hired ∨ (m[k].gone ≠ 0 ∧ m[k].gone ≤ r.frm)) := by
        intro q; rcases q with q | q | q
        · exact q rfl
        · exact hfr q
        · exact hg q
      rw [if_neg hg, if_neg hy]
      obtain ⟨A, B, C, e1, e2, hA, hC, hB⟩ := recS_eq (h.good _ hpm).srt hr
      rw [e2, List.foldl_append, List.foldl_cons, show ∀ o, onStep r.frm o r = r from fun o => if_pos (Int.le_refl _), fold_above hC]
end

def recB (p q : Rec) : Bool := decide (p.frm = q.frm) && (decide (p.ctr = q.ctr) && (decide (p.base = q.base) && (decide (p.bonus = q.bonus) && (decide (p.hours = q.hours) && (decide (p.days = q.days) && (p.lead == q.lead))))))
theorem recB_self (p : Rec) : recB p p = true := by simp [recB]
theorem eqRec (p q : Rec) : EqT Try.prog 63 p.cs q.cs (recB p q) := by
  refine ⟨by kernel_rfl, fun w I vs us h1 h2 => ?_⟩
  simp only [DRelL, DRel, dI, Rec.cs] at h1 h2
  obtain ⟨_, _, rfl, rfl, _, _, rfl, rfl, _, _, rfl, rfl, _, _, rfl, rfl, _, _, rfl, rfl, _, _, rfl, rfl, _, _, rfl, rfl, rfl⟩ := h1
  obtain ⟨_, _, rfl, rfl, _, _, rfl, rfl, _, _, rfl, rfl, _, _, rfl, rfl, _, _, rfl, rfl, _, _, rfl, rfl, _, _, rfl, rfl, rfl⟩ := h2
  have hu := Try.underlying63
  have hv := Try.underlying61
  have hi := Try.underlying3
  have hb := Try.underlying4
  have ha : ∀ w, (isAgg 3).run Try.prog w = .ok false w := fun w => by simp [isAgg, run_underlying hi]
  have ha4 : ∀ w, (isAgg 4).run Try.prog w = .ok false w := fun w => by simp [isAgg, run_underlying hb]
  have hav : ∀ w, (isAgg 61).run Try.prog w = .ok true w := fun w => by simp [isAgg, run_underlying hv]
  have he : ∀ (n : Nat) (w : World) (a b : Int), (Op.equalIn (n + 1) 3 (.int .i64 a) (.int .i64 b)).run Try.prog w = .ok (decide (a = b)) w := fun n w a b => by
    unfold Op.equalIn
    simp [run_underlying hi]
  have heb : ∀ (n : Nat) (w : World) (a b : Bool), (Op.equalIn (n + 1) 4 (.bool a) (.bool b)).run Try.prog w = .ok (a == b) w := fun n w a b => by
    unfold Op.equalIn
    simp [run_underlying hb]
  have inner : ∀ (w : World) (x1 x2 x3 x4 y1 y2 y3 y4 : Int) (b c : Bool), (Op.equalIn 9999 61 (.agg #[.int .i64 x1, .int .i64 x2, .int .i64 x3, .int .i64 x4, .bool b]) (.agg #[.int .i64 y1, .int .i64 y2, .int .i64 y3, .int .i64 y4, .bool c])).run Try.prog w =
      .ok (decide (x1 = y1) && (decide (x2 = y2) && (decide (x3 = y3) && (decide (x4 = y4) && (b == c))))) w := fun w x1 x2 x3 x4 y1 y2 y3 y4 b c => by
    rw [show (9999 : Nat) = 9998 + 1 from rfl, run_equalIn_struct w _ _ _ _ (by simp only [Program.fieldsOf, hv]) (by kernel_rfl)]
    have he' := he 9997
    have heb' := heb 9997
    by_cases h1 : x1 = y1 <;> by_cases h2 : x2 = y2 <;> by_cases h3 : x3 = y3 <;> by_cases h4 : x4 = y4 <;> simp [Program.fieldsOf, hv, Op.eqFields, part, ha, ha4, he', heb', h1, h2, h3, h4] <;> (cases b <;> cases c <;> rfl)
  unfold Op.equal
  rw [show Op.maxDepth = 9999 + 1 from rfl, run_equalIn_struct w _ _ _ _ (by simp only [Program.fieldsOf, hu]) (by kernel_rfl)]
  have he' := he 9998
  have hsz := Try.sizeOf61
  unfold recB
  have hin := fun w => inner w p.base p.bonus p.hours p.days q.base q.bonus q.hours q.days p.lead q.lead
  generalize (decide (p.base = q.base) && (decide (p.bonus = q.bonus) && (decide (p.hours = q.hours) && (decide (p.days = q.days) && (p.lead == q.lead))))) = z at hin ⊢
  by_cases h1 : p.frm = q.frm <;> by_cases h2 : p.ctr = q.ctr <;> simp [Program.fieldsOf, hu, Op.eqFields, part, ha, hav, hsz, he', hin, h1, h2] <;> (cases z <;> rfl)

set_option maxHeartbeats 20000000 in
theorem keepsLaw_ok (l : List Act) (ha : ∀ a ∈ l, a.in64) (a : Act) (haa : a.in64) (id when : Int) (hid : -9223372036854775808 ≤ id ∧ id ≤ 9223372036854775807) (hl : l.length ≤ 9223372036854775807) : Gives Try.prog 11 [.d (encAs l), .d a.enc, .d (dI id), .d (dI when)] (.d (.bool true)) := by
  obtain ⟨hI, hD⟩ := runS_inv ha
  have hdo : l.length ≤ 60 → Gives Try.prog 27 _ _ := fun h => doAll_ok l (by omega) ha
  obtain ⟨m, hm⟩ : ∃ m, (runS l).1 = m := ⟨_, rfl⟩
  obtain ⟨D, hDD⟩ : ∃ D, (runS l).2 = D := ⟨_, rfl⟩
  rw [hm, hDD] at hdo
  rw [hm, hDD] at hI
  rw [hDD] at hD
  obtain ⟨b, hb⟩ : ∃ b : Act, b = { a with kind := 2 } := ⟨_, rfl⟩
  have hbd : doS m b = changeS m a.id a.rcd := by unfold doS; rw [hb]; rfl
  have hsame : (changeS m a.id a.rcd).2 ≠ 0 → (changeS m a.id a.rcd).1 = m := fun h => by rw [← hbd] at h ⊢; exact do_same h
  have hIn : ∃ D', Inv (changeS m a.id a.rcd).1 D' ∧ D'.length ≤ l.length + 1 := by
    by_cases he : (changeS m a.id a.rcd).2 = 0
    · rw [← hbd] at he ⊢
      have hb64 : b.in64 := by rw [hb]; exact haa
      exact ⟨_, inv_step hI hb64 he, by simp; omega⟩
    · rw [hsame he]; exact ⟨D, hI, by omega⟩
  have hk1 := fun h => keeps hI haa (r := a.rcd) hid (when := when) h hsame
  have hk2 := fun he hw => counts hI haa (r := a.rcd) he (when := when) hw
  obtain ⟨n, hn⟩ : ∃ n, (changeS m a.id a.rcd).1 = n := ⟨_, rfl⟩
  obtain ⟨e, he⟩ : ∃ e, (changeS m a.id a.rcd).2 = e := ⟨_, rfl⟩
  rw [hn] at hIn
  obtain ⟨D', hIn, hD'⟩ := hIn
  rw [hn] at hk1 hk2
  rw [he] at hk1 hk2
  have hrecs : ∀ {m : List Per} {D : List Act}, Inv m D → D.length ≤ 1000 → ∀ p ∈ m, p.recs ≠ [] ∧ p.recs.length ≤ 1000000000 := fun hI hD p hp => ⟨by obtain ⟨r, rs, h0, _⟩ := (hI.good p hp).hd; rw [h0]; simp, by have := hI.size p hp; omega⟩
  obtain ⟨x, hx⟩ : ∃ x, (atS m id when).1 = x := ⟨_, rfl⟩
  obtain ⟨f, hf⟩ : ∃ f, (atS m id when).2 = f := ⟨_, rfl⟩
  obtain ⟨y, hy⟩ : ∃ y, (atS n id when).1 = y := ⟨_, rfl⟩
  obtain ⟨g, hg⟩ : ∃ g, (atS n id when).2 = g := ⟨_, rfl⟩
  obtain ⟨z, hz⟩ : ∃ z, (atS n a.id a.frm).1 = z := ⟨_, rfl⟩
  obtain ⟨h, hh⟩ : ∃ h, (atS n a.id a.frm).2 = h := ⟨_, rfl⟩
  obtain ⟨p, hp⟩ : ∃ p, (findS n a.id).1 = p := ⟨_, rfl⟩
  obtain ⟨pe, hpe⟩ : ∃ e, (findS n a.id).2 = e := ⟨_, rfl⟩
  obtain ⟨gn, hgn⟩ : ∃ b, decide (p.gone ≠ 0 ∧ p.gone ≤ a.frm) = b := ⟨_, rfl⟩
  have hq1 : e ≠ 0 ∨ id ≠ a.id ∨ when < a.frm → x = y ∧ f = g := fun hc => by
    have := hk1 hc
    exact ⟨by rw [← hx, ← hy, this], by rw [← hf, ← hg, this]⟩
  have hq2 : ¬ (e ≠ 0 ∨ id ≠ a.id ∨ when < a.frm) → f = g ∧ (gn = true → h = 5) ∧ (gn = false → h = 0) ∧ (gn = false → recB z a.rcd = true) := fun hc => by
    have hia : id = a.id := by apply Classical.byContradiction; intro q; exact hc (.inr (.inl q))
    have he0 : e = 0 := by apply Classical.byContradiction; intro q; exact hc (.inl q)
    obtain ⟨c1, c2⟩ := hk2 he0 (fun q => hc (.inr (.inr q)))
    rw [hp] at c2
    have c2 : if p.gone ≠ 0 ∧ p.gone ≤ a.frm then (atS n a.id a.frm).2 = 5 else atS n a.id a.frm = (a.rcd, 0) := c2
    refine ⟨by rw [← hf, ← hg, hia]; exact c1, fun q => ?_, fun q => ?_, fun q => ?_⟩
    · rw [← hgn, decide_eq_true_iff] at q
      rw [if_pos q] at c2
      rw [← hh]; exact c2
    · rw [← hgn, decide_eq_false_iff_not] at q
      rw [if_neg q] at c2
      have : atS n a.id a.frm = (a.rcd, 0) := c2
      rw [← hh, this]
    · rw [← hgn, decide_eq_false_iff_not] at q
      rw [if_neg q] at c2
      have : atS n a.id a.frm = (a.rcd, 0) := c2
      rw [← hz, this]; exact recB_self _
  have hgn1 : (decide ¬p.gone = 0 && decide (p.gone ≤ a.frm)) = gn := by rw [← hgn]; simp
  refine Gives.enter tabOk Try.func11 rfl (by show 4 ≤ 139; decide) ?_
  simp only [Try.f11]
  refine WpC.seq (WpC.ops tabOk (r := []) (by simp -implicitDefEqProofs [Act.rcd] <;> rfl) rfl ?_)
  refine WpC.seq ?_
  refine WpC.seq (WpC.ops tabOk (r := []) (by simp -implicitDefEqProofs [Act.rcd] <;> rfl) rfl ?_)
  refine WpC.condR (by simp -implicitDefEqProofs [Act.rcd] <;> rfl) (by rfl) (fun c25 => ?_) (fun c25 => ?_)
  · have c25' := c25; first | simp only [dT, dF] at c25' | try simp at c25'
    refine WpC.seq ?_
    refine WpC.region ?_
    refine WpO.data (by simp) rfl (by simp -implicitDefEqProofs [Act.rcd, c25] <;> rfl) (by simp -implicitDefEqProofs [Act.rcd, c25] <;> rfl) (by simp -implicitDefEqProofs [Act.rcd, c25] <;> rfl) call_19 (by simp) (awake13_ok) (by rfl) (by simp -implicitDefEqProofs [Act.rcd, c25] <;> rfl) ?_
    refine WpO.run tabOk 1 (by simp -implicitDefEqProofs [Act.rcd, c25] <;> first | exact ⟨rfl, rfl⟩ | rfl) ?_
    refine WpO.nil ?_
    refine WpC.ret ?_
    try simp only [blockQ, seqQ]
    refine retD_i (by simp -implicitDefEqProofs [Act.rcd, c25] <;> rfl) (by simp -implicitDefEqProofs [Act.rcd, c25] <;> rfl) ?_
    simp -implicitDefEqProofs [Act.rcd, c25]
  · have c25' := c25; first | simp only [dT, dF] at c25' | try simp at c25'
    have h60 : l.length ≤ 60 := by simp at c25; omega
    have hdo := hdo h60
    have hdb := do_ok m b (by have := hI.len.2; omega) (fun p hp => by have := hI.size p hp; omega) (fun p hp => by have := (hI.ordsLen hp).2; omega)
    rw [hbd, hn, he, hb] at hdb
    have ha1 := at_ok m id when (by have := hI.len.2; omega) (hrecs hI (by omega))
    have ha2 := at_ok n id when (by have := hIn.len.2; omega) (hrecs hIn (by omega))
    have ha3 := at_ok n a.id a.frm (by have := hIn.len.2; omega) (hrecs hIn (by omega))
    have hfi := findP_ok n a.id (by have := hIn.len.2; omega)
    rw [hx, hf] at ha1
    rw [hy, hg] at ha2
    rw [hz, hh] at ha3
    rw [hp, hpe] at hfi
    refine WpC.skip ?_
    refine WpC.seq ?_
    refine WpC.region ?_
    refine WpO.run tabOk 1 (by simp -implicitDefEqProofs [Act.rcd, c25] <;> first | exact ⟨rfl, rfl⟩ | rfl) ?_
    refine WpO.data (by simp) rfl (by simp -implicitDefEqProofs [Act.rcd, c25] <;> rfl) (by simp -implicitDefEqProofs [Act.rcd, c25] <;> rfl) (by simp -implicitDefEqProofs [Act.rcd, c25] <;> rfl) call_27 (by simp) (hdo) (by rfl) (by simp -implicitDefEqProofs [Act.rcd, c25] <;> rfl) ?_
    refine WpO.run tabOk 8 (by simp -implicitDefEqProofs [Act.rcd, c25] <;> first | exact ⟨rfl, rfl⟩ | rfl) ?_
    refine WpO.nil ?_
    refine WpC.seq ?_
    refine WpC.seq (WpC.ops tabOk (r := []) (by simp -implicitDefEqProofs [Act.rcd, c25] <;> rfl) rfl ?_)
    refine WpC.condF (by simp -implicitDefEqProofs [Act.rcd, c25] <;> rfl) ?_
    refine WpC.skip ?_
    refine WpC.seq (WpC.ops tabOk (r := []) (by simp -implicitDefEqProofs [Act.rcd, c25] <;> rfl) rfl ?_)
    refine WpC.seq ?_
    refine WpC.region ?_
    refine WpO.run tabOk 2 (by simp -implicitDefEqProofs [Act.rcd, c25] <;> first | exact ⟨rfl, rfl⟩ | rfl) ?_
    refine WpO.data (by simp) rfl (by simp -implicitDefEqProofs [Act.rcd, c25] <;> rfl) (by simp -implicitDefEqProofs [Act.rcd, c25] <;> rfl) (by simp -implicitDefEqProofs [Act.rcd, c25] <;> rfl) call_29 (by simp) (hdb) (by rfl) (by simp -implicitDefEqProofs [Act.rcd, c25] <;> rfl) ?_
    refine WpO.run tabOk 6 (by simp -implicitDefEqProofs [Act.rcd, c25] <;> first | exact ⟨rfl, rfl⟩ | rfl) ?_
    refine WpO.nil ?_
    refine WpC.seq ?_
    refine WpC.region ?_
    refine WpO.run tabOk 3 (by simp -implicitDefEqProofs [Act.rcd, c25] <;> first | exact ⟨rfl, rfl⟩ | rfl) ?_
    refine WpO.data (by simp) rfl (by simp -implicitDefEqProofs [Act.rcd, c25] <;> rfl) (by simp -implicitDefEqProofs [Act.rcd, c25] <;> rfl) (by simp -implicitDefEqProofs [Act.rcd, c25] <;> rfl) call_22 (by simp) (by first | exact ha1 | exact ha2) (by rfl) (by simp -implicitDefEqProofs [Act.rcd, c25] <;> rfl) ?_
    refine WpO.run tabOk 6 (by simp -implicitDefEqProofs [Act.rcd, c25] <;> first | exact ⟨rfl, rfl⟩ | rfl) ?_
    refine WpO.nil ?_
    refine WpC.seq ?_
    refine WpC.region ?_
    refine WpO.run tabOk 3 (by simp -implicitDefEqProofs [Act.rcd, c25] <;> first | exact ⟨rfl, rfl⟩ | rfl) ?_
    refine WpO.data (by simp) rfl (by simp -implicitDefEqProofs [Act.rcd, c25] <;> rfl) (by simp -implicitDefEqProofs [Act.rcd, c25] <;> rfl) (by simp -implicitDefEqProofs [Act.rcd, c25] <;> rfl) call_22 (by simp) (by first | exact ha1 | exact ha2) (by rfl) (by simp -implicitDefEqProofs [Act.rcd, c25] <;> rfl) ?_
    refine WpO.run tabOk 6 (by simp -implicitDefEqProofs [Act.rcd, c25] <;> first | exact ⟨rfl, rfl⟩ | rfl) ?_
    refine WpO.nil ?_
    refine WpC.seq ?_
    refine WpC.seq ?_
    refine WpC.val 69 (.d (.bool (decide (e ≠ 0 ∨ id ≠ a.id ∨ when < a.frm)))) ?_ ?_
    · refine WpC.region ?_
      refine WpO.run tabOk 3 (by simp -implicitDefEqProofs [Act.rcd, c25] <;> first | exact ⟨rfl, rfl⟩ | rfl) ?_
      refine WpO.splitB 58 (by simp -implicitDefEqProofs [Act.rcd, c25] <;> rfl) (by rfl) (fun g58 => ?_) (fun g58 => ?_)
      · try (exfalso; revert g58; simp; done)
        all_goals
          have g58' := g58; first | simp only [dT, dF] at g58' | try simp at g58'
          refine WpO.run tabOk 11 (by simp -implicitDefEqProofs [Act.rcd, c25, g58] <;> first | exact ⟨rfl, rfl⟩ | rfl) ?_
          refine WpO.nil ?_
          refine ⟨rfl, Gh.only 69 15 ?_ (by first | rfl | simp -implicitDefEqProofs [Act.rcd, c25, g58]) (by rfl)⟩
          simp -implicitDefEqProofs [Act.rcd, c25, g58, g58']
      · try (exfalso; revert g58; simp; done)
        all_goals
          have g58' := g58; first | simp only [dT, dF] at g58' | try simp at g58'
          refine WpO.run tabOk 6 (by simp -implicitDefEqProofs [Act.rcd, c25, g58] <;> first | exact ⟨rfl, rfl⟩ | rfl) ?_
          refine WpO.splitB 64 (by simp -implicitDefEqProofs [Act.rcd, c25, g58] <;> rfl) (by rfl) (fun g64 => ?_) (fun g64 => ?_)
          · try (exfalso; revert g64; simp; done)
            all_goals
              have g64' := g64; first | simp only [dT, dF] at g64' | try simp at g64'
              refine WpO.run tabOk 5 (by simp -implicitDefEqProofs [Act.rcd, c25, g58, g64] <;> first | exact ⟨rfl, rfl⟩ | rfl) ?_
              refine WpO.nil ?_
              refine ⟨rfl, Gh.only 69 16 ?_ (by first | rfl | simp -implicitDefEqProofs [Act.rcd, c25, g58, g64]) (by rfl)⟩
              simp -implicitDefEqProofs [Act.rcd, c25, g58, g64, g58', g64']
          · try (exfalso; revert g64; simp; done)
            all_goals
              have g64' := g64; first | simp only [dT, dF] at g64' | try simp at g64'
              refine WpO.run tabOk 5 (by simp -implicitDefEqProofs [Act.rcd, c25, g58, g64] <;> first | exact ⟨rfl, rfl⟩ | rfl) ?_
              refine WpO.nil ?_
              refine ⟨rfl, Gh.only 69 16 ?_ (by first | rfl | simp -implicitDefEqProofs [Act.rcd, c25, g58, g64]) (by rfl)⟩
              simp -implicitDefEqProofs [Act.rcd, c25, g58, g64, g58', g64']
    refine WpC.condD (e ≠ 0 ∨ id ≠ a.id ∨ when < a.frm) (by simp -implicitDefEqProofs [Act.rcd, c25]) (fun d69 => ?_) (fun d69 => ?_)
    · obtain ⟨rfl, rfl⟩ := hq1 d69
      have hrs := recB_self x
      refine WpC.seq ?_
      refine WpC.val 8 (.d (.bool (true))) ?_ ?_
      · refine WpC.region ?_
        refine WpO.run tabOk 4 (by simp -implicitDefEqProofs [Act.rcd, c25, d69, hrs] <;> first | exact ⟨rfl, rfl⟩ | rfl) ?_
        refine WpO.splitB 73 (by simp -implicitDefEqProofs [Act.rcd, c25, d69, hrs] <;> rfl) (by rfl) (fun g73 => ?_) (fun g73 => ?_)
        · try (exfalso; revert g73; simp; done)
          all_goals
            have g73' := g73; first | simp only [dT, dF] at g73' | try simp at g73'
            refine WpO.run tabOk 2 (by simp -implicitDefEqProofs [Act.rcd, c25, d69, hrs, g73] <;> first | exact ⟨rfl, rfl⟩ | rfl) ?_
            refine WpO.eqS false (by simp) rfl (by simp -implicitDefEqProofs [Act.rcd, c25, d69, hrs, g73] <;> rfl) (by simp -implicitDefEqProofs [Act.rcd, c25, d69, hrs, g73] <;> rfl) (eqRec x x) (by simp -implicitDefEqProofs [Act.rcd, c25, d69, hrs, g73] <;> rfl) ?_
            refine WpO.run tabOk 2 (by simp -implicitDefEqProofs [Act.rcd, c25, d69, hrs, g73] <;> first | exact ⟨rfl, rfl⟩ | rfl) ?_
            refine WpO.splitB 78 (by simp -implicitDefEqProofs [Act.rcd, c25, d69, hrs, g73] <;> rfl) (by rfl) (fun g78 => ?_) (fun g78 => ?_)
            · try (exfalso; revert g78; simp; done)
              all_goals
                have g78' := g78; first | simp only [dT, dF] at g78' | try simp at g78'
                refine WpO.data (by simp) rfl (by simp -implicitDefEqProofs [Act.rcd, c25, d69, hrs, g73, g78] <;> rfl) (by simp -implicitDefEqProofs [Act.rcd, c25, d69, hrs, g73, g78] <;> rfl) (by simp -implicitDefEqProofs [Act.rcd, c25, d69, hrs, g73, g78] <;> rfl) call_19 (by simp) (awake13_ok) (by rfl) (by simp -implicitDefEqProofs [Act.rcd, c25, d69, hrs, g73, g78] <;> rfl) ?_
                refine WpO.run tabOk 2 (by simp -implicitDefEqProofs [Act.rcd, c25, d69, hrs, g73, g78] <;> first | exact ⟨rfl, rfl⟩ | rfl) ?_
                refine WpO.nil ?_
                refine ⟨rfl, Gh.only 8 14 ?_ (by first | rfl | simp -implicitDefEqProofs [Act.rcd, c25, d69, hrs, g73, g78]) (by rfl)⟩
                simp -implicitDefEqProofs [Act.rcd, c25, d69, hrs, g73, g78, g73', g78']
            · try (exfalso; revert g78; simp; done)
              all_goals
                have g78' := g78; first | simp only [dT, dF] at g78' | try simp at g78'
                refine WpO.run tabOk 3 (by simp -implicitDefEqProofs [Act.rcd, c25, d69, hrs, g73, g78] <;> first | exact ⟨rfl, rfl⟩ | rfl) ?_
                refine WpO.nil ?_
                refine ⟨rfl, Gh.only 8 14 ?_ (by first | rfl | simp -implicitDefEqProofs [Act.rcd, c25, d69, hrs, g73, g78]) (by rfl)⟩
                simp -implicitDefEqProofs [Act.rcd, c25, d69, hrs, g73, g78, g73', g78']
        · try (exfalso; revert g73; simp; done)
          all_goals
            have g73' := g73; first | simp only [dT, dF] at g73' | try simp at g73'
            refine WpO.run tabOk 8 (by simp -implicitDefEqProofs [Act.rcd, c25, d69, hrs, g73] <;> first | exact ⟨rfl, rfl⟩ | rfl) ?_
            refine WpO.nil ?_
            refine ⟨rfl, Gh.only 8 13 ?_ (by first | rfl | simp -implicitDefEqProofs [Act.rcd, c25, d69, hrs, g73]) (by rfl)⟩
            simp -implicitDefEqProofs [Act.rcd, c25, d69, hrs, g73, g73']
      refine WpC.ret ?_
      try simp only [blockQ, seqQ]
      refine retD_i (by simp -implicitDefEqProofs [Act.rcd, c25, d69, hrs] <;> rfl) (by simp -implicitDefEqProofs [Act.rcd, c25, d69, hrs] <;> rfl) ?_
      simp -implicitDefEqProofs [Act.rcd, c25, d69, hrs]
    · obtain ⟨rfl, hb1, hb2, hb3⟩ := hq2 d69
      have hb3 : gn = false → recB z ⟨a.frm, a.ctr, a.base, a.bonus, a.hours, a.days, a.lead⟩ = true := hb3
      refine WpC.skip ?_
      refine WpC.seq ?_
      refine WpC.region ?_
      refine WpO.run tabOk 5 (by simp -implicitDefEqProofs [Act.rcd, c25, d69] <;> first | exact ⟨rfl, rfl⟩ | rfl) ?_
      refine WpO.data (by simp) rfl (by simp -implicitDefEqProofs [Act.rcd, c25, d69] <;> rfl) (by simp -implicitDefEqProofs [Act.rcd, c25, d69] <;> rfl) (by simp -implicitDefEqProofs [Act.rcd, c25, d69] <;> rfl) call_22 (by simp) (ha3) (by rfl) (by simp -implicitDefEqProofs [Act.rcd, c25, d69] <;> rfl) ?_
      refine WpO.run tabOk 6 (by simp -implicitDefEqProofs [Act.rcd, c25, d69] <;> first | exact ⟨rfl, rfl⟩ | rfl) ?_
      refine WpO.nil ?_
      refine WpC.seq ?_
      refine WpC.region ?_
      refine WpO.run tabOk 3 (by simp -implicitDefEqProofs [Act.rcd, c25, d69] <;> first | exact ⟨rfl, rfl⟩ | rfl) ?_
      refine WpO.data (by simp) rfl (by simp -implicitDefEqProofs [Act.rcd, c25, d69] <;> rfl) (by simp -implicitDefEqProofs [Act.rcd, c25, d69] <;> rfl) (by simp -implicitDefEqProofs [Act.rcd, c25, d69] <;> rfl) call_23 (by simp) (hfi) (by rfl) (by simp -implicitDefEqProofs [Act.rcd, c25, d69] <;> rfl) ?_
      refine WpO.run tabOk 6 (by simp -implicitDefEqProofs [Act.rcd, c25, d69] <;> first | exact ⟨rfl, rfl⟩ | rfl) ?_
      refine WpO.nil ?_
      refine WpC.seq ?_
      refine WpC.val 22 (.d (.bool (gn))) ?_ ?_
      · refine WpC.region ?_
        refine WpO.run tabOk 4 (by simp -implicitDefEqProofs [Act.rcd, c25, d69] <;> first | exact ⟨rfl, rfl⟩ | rfl) ?_
        refine WpO.splitB 100 (by simp -implicitDefEqProofs [Act.rcd, c25, d69] <;> rfl) (by rfl) (fun g100 => ?_) (fun g100 => ?_)
        · try (exfalso; revert g100; simp; done)
          all_goals
            have g100' := g100; first | simp only [dT, dF] at g100' | try simp at g100'
            refine WpO.run tabOk 7 (by simp -implicitDefEqProofs [Act.rcd, c25, d69, g100] <;> first | exact ⟨rfl, rfl⟩ | rfl) ?_
            refine WpO.nil ?_
            refine ⟨rfl, Gh.only 22 12 ?_ (by first | rfl | simp -implicitDefEqProofs [Act.rcd, c25, d69, g100]) (by rfl)⟩
            simp -implicitDefEqProofs [Act.rcd, c25, d69, g100, g100', ← hgn]
        · try (exfalso; revert g100; simp; done)
          all_goals
            have g100' := g100; first | simp only [dT, dF] at g100' | try simp at g100'
            refine WpO.run tabOk 7 (by simp -implicitDefEqProofs [Act.rcd, c25, d69, g100] <;> first | exact ⟨rfl, rfl⟩ | rfl) ?_
            refine WpO.nil ?_
            refine ⟨rfl, Gh.only 22 12 ?_ (by first | rfl | simp -implicitDefEqProofs [Act.rcd, c25, d69, g100]) (by rfl)⟩
            simp -implicitDefEqProofs [Act.rcd, c25, d69, g100, g100', ← hgn]
      refine WpC.seq ?_
      refine WpC.val 8 (.d (.bool (true))) ?_ ?_
      · refine WpC.region ?_
        refine WpO.run tabOk 4 (by simp -implicitDefEqProofs [Act.rcd, c25, d69, hb1, hb2, hb3] <;> first | exact ⟨rfl, rfl⟩ | rfl) ?_
        refine WpO.splitB 110 (by simp -implicitDefEqProofs [Act.rcd, c25, d69, hb1, hb2, hb3] <;> rfl) (by rfl) (fun g110 => ?_) (fun g110 => ?_)
        · try (exfalso; revert g110; simp; done)
          all_goals
            have g110' := g110; first | simp only [dT, dF] at g110' | try simp at g110'
            refine WpO.run tabOk 2 (by simp -implicitDefEqProofs [Act.rcd, c25, d69, hb1, hb2, hb3, g110] <;> first | exact ⟨rfl, rfl⟩ | rfl) ?_
            refine WpO.splitB 112 (by simp -implicitDefEqProofs [Act.rcd, c25, d69, hb1, hb2, hb3, g110] <;> rfl) (by rfl) (fun g112 => ?_) (fun g112 => ?_)
            · try (exfalso; revert g112; simp; done)
              all_goals
                have g112' := g112; first | simp only [dT, dF] at g112' | try simp at g112'
                refine WpO.run tabOk 4 (by simp -implicitDefEqProofs [Act.rcd, c25, d69, hb1, hb2, hb3, g110, g112] <;> first | exact ⟨rfl, rfl⟩ | rfl) ?_
                refine WpO.splitB 116 (by simp -implicitDefEqProofs [Act.rcd, c25, d69, hb1, hb2, hb3, g110, g112] <;> rfl) (by rfl) (fun g116 => ?_) (fun g116 => ?_)
                · try (exfalso; revert g116; simp; done)
                  all_goals
                    have g116' := g116; first | simp only [dT, dF] at g116' | try simp at g116'
                    refine WpO.run tabOk 20 (by simp -implicitDefEqProofs [Act.rcd, c25, d69, hb1, hb2, hb3, g110, g112, g116] <;> first | exact ⟨rfl, rfl⟩ | rfl) ?_
                    refine WpO.data (by simp) rfl (by simp -implicitDefEqProofs [Act.rcd, c25, d69, hb1, hb2, hb3, g110, g112, g116] <;> rfl) (by simp -implicitDefEqProofs [Act.rcd, c25, d69, hb1, hb2, hb3, g110, g112, g116] <;> rfl) (by simp -implicitDefEqProofs [Act.rcd, c25, d69, hb1, hb2, hb3, g110, g112, g116] <;> rfl) call_19 (by simp) (awake13_ok) (by rfl) (by simp -implicitDefEqProofs [Act.rcd, c25, d69, hb1, hb2, hb3, g110, g112, g116] <;> rfl) ?_
                    refine WpO.run tabOk 2 (by simp -implicitDefEqProofs [Act.rcd, c25, d69, hb1, hb2, hb3, g110, g112, g116] <;> first | exact ⟨rfl, rfl⟩ | rfl) ?_
                    refine WpO.nil ?_
                    refine ⟨rfl, Gh.only 8 36 ?_ (by first | rfl | simp -implicitDefEqProofs [Act.rcd, c25, d69, hb1, hb2, hb3, g110, g112, g116]) (by rfl)⟩
                    simp -implicitDefEqProofs [Act.rcd, c25, d69, hb1, hb2, hb3, g110, g112, g116, g110', g112', g116', hb1, hb2, hb3]
                · try (exfalso; revert g116; simp; done)
                  all_goals
                    have g116' := g116; first | simp only [dT, dF] at g116' | try simp at g116'
                    refine WpO.run tabOk 3 (by simp -implicitDefEqProofs [Act.rcd, c25, d69, hb1, hb2, hb3, g110, g112, g116] <;> first | exact ⟨rfl, rfl⟩ | rfl) ?_
                    refine WpO.splitB 119 (by simp -implicitDefEqProofs [Act.rcd, c25, d69, hb1, hb2, hb3, g110, g112, g116] <;> rfl) (by rfl) (fun g119 => ?_) (fun g119 => ?_)
                    · try (exfalso; revert g119; simp; done)
                      all_goals
                        have g119' := g119; first | simp only [dT, dF] at g119' | try simp at g119'
                        refine WpO.run tabOk 4 (by simp -implicitDefEqProofs [Act.rcd, c25, d69, hb1, hb2, hb3, g110, g112, g116, g119] <;> first | exact ⟨rfl, rfl⟩ | rfl) ?_
                        refine WpO.splitB 123 (by simp -implicitDefEqProofs [Act.rcd, c25, d69, hb1, hb2, hb3, g110, g112, g116, g119] <;> rfl) (by rfl) (fun g123 => ?_) (fun g123 => ?_)
                        · try (exfalso; revert g123; simp; done)
                          all_goals
                            have g123' := g123; first | simp only [dT, dF] at g123' | try simp at g123'
                            refine WpO.run tabOk 8 (by simp -implicitDefEqProofs [Act.rcd, c25, d69, hb1, hb2, hb3, g110, g112, g116, g119, g123] <;> first | exact ⟨rfl, rfl⟩ | rfl) ?_
                            refine WpO.eqS false (by simp) rfl (by simp -implicitDefEqProofs [Act.rcd, c25, d69, hb1, hb2, hb3, g110, g112, g116, g119, g123] <;> rfl) (by simp -implicitDefEqProofs [Act.rcd, c25, d69, hb1, hb2, hb3, g110, g112, g116, g119, g123] <;> rfl) (eqRec z a.rcd) (by simp -implicitDefEqProofs [Act.rcd, c25, d69, hb1, hb2, hb3, g110, g112, g116, g119, g123] <;> rfl) ?_
                            refine WpO.run tabOk 4 (by simp -implicitDefEqProofs [Act.rcd, c25, d69, hb1, hb2, hb3, g110, g112, g116, g119, g123] <;> first | exact ⟨rfl, rfl⟩ | rfl) ?_
                            refine WpO.splitB 136 (by simp -implicitDefEqProofs [Act.rcd, c25, d69, hb1, hb2, hb3, g110, g112, g116, g119, g123] <;> rfl) (by rfl) (fun g136 => ?_) (fun g136 => ?_)
                            · try (exfalso; revert g136; simp; done)
                              all_goals
                                have g136' := g136; first | simp only [dT, dF] at g136' | try simp at g136'
                                refine WpO.data (by simp) rfl (by simp -implicitDefEqProofs [Act.rcd, c25, d69, hb1, hb2, hb3, g110, g112, g116, g119, g123, g136] <;> rfl) (by simp -implicitDefEqProofs [Act.rcd, c25, d69, hb1, hb2, hb3, g110, g112, g116, g119, g123, g136] <;> rfl) (by simp -implicitDefEqProofs [Act.rcd, c25, d69, hb1, hb2, hb3, g110, g112, g116, g119, g123, g136] <;> rfl) call_19 (by simp) (awake13_ok) (by rfl) (by simp -implicitDefEqProofs [Act.rcd, c25, d69, hb1, hb2, hb3, g110, g112, g116, g119, g123, g136] <;> rfl) ?_
                                refine WpO.run tabOk 2 (by simp -implicitDefEqProofs [Act.rcd, c25, d69, hb1, hb2, hb3, g110, g112, g116, g119, g123, g136] <;> first | exact ⟨rfl, rfl⟩ | rfl) ?_
                                refine WpO.nil ?_
                                refine ⟨rfl, Gh.only 8 39 ?_ (by first | rfl | simp -implicitDefEqProofs [Act.rcd, c25, d69, hb1, hb2, hb3, g110, g112, g116, g119, g123, g136]) (by rfl)⟩
                                simp -implicitDefEqProofs [Act.rcd, c25, d69, hb1, hb2, hb3, g110, g112, g116, g119, g123, g136, g110', g112', g116', g119', g123', g136', hb1, hb2, hb3]
                            · try (exfalso; revert g136; simp; done)
                              all_goals
                                have g136' := g136; first | simp only [dT, dF] at g136' | try simp at g136'
                                refine WpO.run tabOk 3 (by simp -implicitDefEqProofs [Act.rcd, c25, d69, hb1, hb2, hb3, g110, g112, g116, g119, g123, g136] <;> first | exact ⟨rfl, rfl⟩ | rfl) ?_
                                refine WpO.nil ?_
                                refine ⟨rfl, Gh.only 8 39 ?_ (by first | rfl | simp -implicitDefEqProofs [Act.rcd, c25, d69, hb1, hb2, hb3, g110, g112, g116, g119, g123, g136]) (by rfl)⟩
                                simp -implicitDefEqProofs [Act.rcd, c25, d69, hb1, hb2, hb3, g110, g112, g116, g119, g123, g136, g110', g112', g116', g119', g123', g136', hb1, hb2, hb3]
                        · try (exfalso; revert g123; simp; done)
                          all_goals
                            have g123' := g123; first | simp only [dT, dF] at g123' | try simp at g123'
                            refine WpO.run tabOk 16 (by simp -implicitDefEqProofs [Act.rcd, c25, d69, hb1, hb2, hb3, g110, g112, g116, g119, g123] <;> first | exact ⟨rfl, rfl⟩ | rfl) ?_
                            refine WpO.nil ?_
                            refine ⟨rfl, Gh.only 8 38 ?_ (by first | rfl | simp -implicitDefEqProofs [Act.rcd, c25, d69, hb1, hb2, hb3, g110, g112, g116, g119, g123]) (by rfl)⟩
                            simp -implicitDefEqProofs [Act.rcd, c25, d69, hb1, hb2, hb3, g110, g112, g116, g119, g123, g110', g112', g116', g119', g123', hb1, hb2, hb3]
                    · try (exfalso; revert g119; simp; done)
                      all_goals
                        have g119' := g119; first | simp only [dT, dF] at g119' | try simp at g119'
                        refine WpO.run tabOk 20 (by simp -implicitDefEqProofs [Act.rcd, c25, d69, hb1, hb2, hb3, g110, g112, g116, g119] <;> first | exact ⟨rfl, rfl⟩ | rfl) ?_
                        refine WpO.nil ?_
                        refine ⟨rfl, Gh.only 8 37 ?_ (by first | rfl | simp -implicitDefEqProofs [Act.rcd, c25, d69, hb1, hb2, hb3, g110, g112, g116, g119]) (by rfl)⟩
                        simp -implicitDefEqProofs [Act.rcd, c25, d69, hb1, hb2, hb3, g110, g112, g116, g119, g110', g112', g116', g119', hb1, hb2, hb3]
            · try (exfalso; revert g112; simp; done)
              all_goals
                have g112' := g112; first | simp only [dT, dF] at g112' | try simp at g112'
                refine WpO.run tabOk 7 (by simp -implicitDefEqProofs [Act.rcd, c25, d69, hb1, hb2, hb3, g110, g112] <;> first | exact ⟨rfl, rfl⟩ | rfl) ?_
                refine WpO.splitB 119 (by simp -implicitDefEqProofs [Act.rcd, c25, d69, hb1, hb2, hb3, g110, g112] <;> rfl) (by rfl) (fun g119 => ?_) (fun g119 => ?_)
                · try (exfalso; revert g119; simp; done)
                  all_goals
                    have g119' := g119; first | simp only [dT, dF] at g119' | try simp at g119'
                    refine WpO.run tabOk 4 (by simp -implicitDefEqProofs [Act.rcd, c25, d69, hb1, hb2, hb3, g110, g112, g119] <;> first | exact ⟨rfl, rfl⟩ | rfl) ?_
                    refine WpO.splitB 123 (by simp -implicitDefEqProofs [Act.rcd, c25, d69, hb1, hb2, hb3, g110, g112, g119] <;> rfl) (by rfl) (fun g123 => ?_) (fun g123 => ?_)
                    · try (exfalso; revert g123; simp; done)
                      all_goals
                        have g123' := g123; first | simp only [dT, dF] at g123' | try simp at g123'
                        refine WpO.run tabOk 8 (by simp -implicitDefEqProofs [Act.rcd, c25, d69, hb1, hb2, hb3, g110, g112, g119, g123] <;> first | exact ⟨rfl, rfl⟩ | rfl) ?_
                        refine WpO.eqS false (by simp) rfl (by simp -implicitDefEqProofs [Act.rcd, c25, d69, hb1, hb2, hb3, g110, g112, g119, g123] <;> rfl) (by simp -implicitDefEqProofs [Act.rcd, c25, d69, hb1, hb2, hb3, g110, g112, g119, g123] <;> rfl) (eqRec z a.rcd) (by simp -implicitDefEqProofs [Act.rcd, c25, d69, hb1, hb2, hb3, g110, g112, g119, g123] <;> rfl) ?_
                        refine WpO.run tabOk 4 (by simp -implicitDefEqProofs [Act.rcd, c25, d69, hb1, hb2, hb3, g110, g112, g119, g123] <;> first | exact ⟨rfl, rfl⟩ | rfl) ?_
                        refine WpO.splitB 136 (by simp -implicitDefEqProofs [Act.rcd, c25, d69, hb1, hb2, hb3, g110, g112, g119, g123] <;> rfl) (by rfl) (fun g136 => ?_) (fun g136 => ?_)
                        · try (exfalso; revert g136; simp; done)
                          all_goals
                            have g136' := g136; first | simp only [dT, dF] at g136' | try simp at g136'
                            refine WpO.data (by simp) rfl (by simp -implicitDefEqProofs [Act.rcd, c25, d69, hb1, hb2, hb3, g110, g112, g119, g123, g136] <;> rfl) (by simp -implicitDefEqProofs [Act.rcd, c25, d69, hb1, hb2, hb3, g110, g112, g119, g123, g136] <;> rfl) (by simp -implicitDefEqProofs [Act.rcd, c25, d69, hb1, hb2, hb3, g110, g112, g119, g123, g136] <;> rfl) call_19 (by simp) (awake13_ok) (by rfl) (by simp -implicitDefEqProofs [Act.rcd, c25, d69, hb1, hb2, hb3, g110, g112, g119, g123, g136] <;> rfl) ?_
                            refine WpO.run tabOk 2 (by simp -implicitDefEqProofs [Act.rcd, c25, d69, hb1, hb2, hb3, g110, g112, g119, g123, g136] <;> first | exact ⟨rfl, rfl⟩ | rfl) ?_
                            refine WpO.nil ?_
                            refine ⟨rfl, Gh.only 8 38 ?_ (by first | rfl | simp -implicitDefEqProofs [Act.rcd, c25, d69, hb1, hb2, hb3, g110, g112, g119, g123, g136]) (by rfl)⟩
                            simp -implicitDefEqProofs [Act.rcd, c25, d69, hb1, hb2, hb3, g110, g112, g119, g123, g136, g110', g112', g119', g123', g136', hb1, hb2, hb3]
                        · try (exfalso; revert g136; simp; done)
                          all_goals
                            have g136' := g136; first | simp only [dT, dF] at g136' | try simp at g136'
                            refine WpO.run tabOk 3 (by simp -implicitDefEqProofs [Act.rcd, c25, d69, hb1, hb2, hb3, g110, g112, g119, g123, g136] <;> first | exact ⟨rfl, rfl⟩ | rfl) ?_
                            refine WpO.nil ?_
                            refine ⟨rfl, Gh.only 8 38 ?_ (by first | rfl | simp -implicitDefEqProofs [Act.rcd, c25, d69, hb1, hb2, hb3, g110, g112, g119, g123, g136]) (by rfl)⟩
                            simp -implicitDefEqProofs [Act.rcd, c25, d69, hb1, hb2, hb3, g110, g112, g119, g123, g136, g110', g112', g119', g123', g136', hb1, hb2, hb3]
                    · try (exfalso; revert g123; simp; done)
                      all_goals
                        have g123' := g123; first | simp only [dT, dF] at g123' | try simp at g123'
                        refine WpO.run tabOk 16 (by simp -implicitDefEqProofs [Act.rcd, c25, d69, hb1, hb2, hb3, g110, g112, g119, g123] <;> first | exact ⟨rfl, rfl⟩ | rfl) ?_
                        refine WpO.nil ?_
                        refine ⟨rfl, Gh.only 8 37 ?_ (by first | rfl | simp -implicitDefEqProofs [Act.rcd, c25, d69, hb1, hb2, hb3, g110, g112, g119, g123]) (by rfl)⟩
                        simp -implicitDefEqProofs [Act.rcd, c25, d69, hb1, hb2, hb3, g110, g112, g119, g123, g110', g112', g119', g123', hb1, hb2, hb3]
                · try (exfalso; revert g119; simp; done)
                  all_goals
                    have g119' := g119; first | simp only [dT, dF] at g119' | try simp at g119'
                    refine WpO.run tabOk 20 (by simp -implicitDefEqProofs [Act.rcd, c25, d69, hb1, hb2, hb3, g110, g112, g119] <;> first | exact ⟨rfl, rfl⟩ | rfl) ?_
                    refine WpO.nil ?_
                    refine ⟨rfl, Gh.only 8 36 ?_ (by first | rfl | simp -implicitDefEqProofs [Act.rcd, c25, d69, hb1, hb2, hb3, g110, g112, g119]) (by rfl)⟩
                    simp -implicitDefEqProofs [Act.rcd, c25, d69, hb1, hb2, hb3, g110, g112, g119, g110', g112', g119', hb1, hb2, hb3]
        · try (exfalso; revert g110; simp; done)
          all_goals
            have g110' := g110; first | simp only [dT, dF] at g110' | try simp at g110'
            refine WpO.run tabOk 29 (by simp -implicitDefEqProofs [Act.rcd, c25, d69, hb1, hb2, hb3, g110] <;> first | exact ⟨rfl, rfl⟩ | rfl) ?_
            refine WpO.nil ?_
            refine ⟨rfl, Gh.only 8 34 ?_ (by first | rfl | simp -implicitDefEqProofs [Act.rcd, c25, d69, hb1, hb2, hb3, g110]) (by rfl)⟩
            simp -implicitDefEqProofs [Act.rcd, c25, d69, hb1, hb2, hb3, g110, g110', hb1, hb2, hb3]
      refine WpC.ret ?_
      try simp only [blockQ, seqQ]
      refine retD_i (by simp -implicitDefEqProofs [Act.rcd, c25, d69, hb1, hb2, hb3] <;> rfl) (by simp -implicitDefEqProofs [Act.rcd, c25, d69, hb1, hb2, hb3] <;> rfl) ?_
      simp -implicitDefEqProofs [Act.rcd, c25, d69, hb1, hb2, hb3]
section
variable {w : World}
theorem masterKeeps_row {e0 e1 e2 e3 : List D} {v0 v1 v2 v3 : Value} {i0 i1 i2 i3 : TI} (y0 : HasT tab 8 80 e0) (y1 : HasT tab 8 90 e1) (y2 : HasT tab 8 3 e2) (y3 : HasT tab 8 3 e3)
    (t0 : some i0 = tab 80) (t1 : some i1 = tab 90) (t2 : some i2 = tab 3) (t3 : some i3 = tab 3)
    (z0 : DRel w (lt w) (elemD i0 e0) v0) (z1 : DRel w (lt w) (elemD i1 e1) v1) (z2 : DRel w (lt w) (elemD i2 e2) v2) (z3 : DRel w (lt w) (elemD i3 e3) v3) :
    Calls Try.prog 11 #[v0, v1, v2, v3] w fun e w' => e = .returned (.bool true) ∧ Below w.heap.size w w' := by
  rw [tab_80] at t0; cases t0
  rw [tab_90] at t1; cases t1
  rw [tab_3] at t2 t3; cases t2; cases t3
  obtain ⟨l, rfl, ha, hl⟩ := has_acts y0
  obtain ⟨a, rfl, haa⟩ := has_act y1
  obtain ⟨n, rfl, hn⟩ := has_num y2 tab_3
  obtain ⟨k, rfl, hk⟩ := has_num y3 tab_3
  refine WpF.law (keepsLaw_ok l ha a haa n k (i64_in hn) (by simpa [maxLen] using hl)) (fun r S h => h.1) (vs := [v0, v1, v2, v3]) ?_
  simp only [VRelL, VRel]
  exact ⟨v0, _, rfl, z0, v1, _, rfl, z1, v2, _, rfl, z2, v3, _, rfl, z3, rfl⟩
end
end Go.Proofs.Ytndofikacmhejaa.Pay
