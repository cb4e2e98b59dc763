/- bank: payments, their order, Right. No statement of the seed is proved here. -/
import Derived.Test.YtjlamhilnkadcaaDoorPayP
namespace Go.Proofs.YtjlamhilnkadcaaDoor.Pay
open Go Go.RowKit
set_option linter.unusedVariables false
set_option linter.unusedSimpArgs false

def cmpI (x y : Int) : Int := if x < y then -1 else if y < x then 1 else 0
theorem isNaN_int (x : Int) : Gives Tryd.prog 40 [.d (.int .i64 x)] (.d (.bool false)) := by
  refine Gives.enter tabOk Tryd.func40 rfl (by show 1 ≤ 6; decide) ?_
  simp only [Tryd.f40]
  iterate 2 refine qR (by simp -implicitDefEqProofs <;> rfl) ?_
  refine WpC.ret ?_
  try simp only [blockQ, seqQ]
  refine retD_i (by simp -implicitDefEqProofs <;> rfl) (by simp -implicitDefEqProofs <;> rfl) ?_
  simp -implicitDefEqProofs
theorem cmp_int (x y : Int) : Gives Tryd.prog 29 [.d (.int .i64 x), .d (.int .i64 y)] (.d (dI (cmpI x y))) := by
  refine Gives.enter tabOk Tryd.func29 rfl (by show 2 ≤ 20; decide) ?_
  simp only [Tryd.f29]
  refine qR (by simp -implicitDefEqProofs <;> rfl) ?_
  refine WpC.seq ?_
  refine WpC.region ?_
  refine WpO.run tabOk 1 (by simp -implicitDefEqProofs <;> first | exact ⟨rfl, rfl⟩ | rfl) ?_
  refine WpO.data (by simp) rfl (by simp -implicitDefEqProofs <;> rfl) (by simp -implicitDefEqProofs <;> rfl) (by simp -implicitDefEqProofs <;> rfl) call_40 (by simp) (isNaN_int _) (by rfl) (by simp -implicitDefEqProofs <;> rfl) ?_
  refine WpO.run tabOk 1 (by simp -implicitDefEqProofs <;> first | exact ⟨rfl, rfl⟩ | rfl) ?_
  refine WpO.nil ?_
  refine WpC.seq ?_
  refine WpC.region ?_
  refine WpO.run tabOk 1 (by simp -implicitDefEqProofs <;> first | exact ⟨rfl, rfl⟩ | rfl) ?_
  refine WpO.data (by simp) rfl (by simp -implicitDefEqProofs <;> rfl) (by simp -implicitDefEqProofs <;> rfl) (by simp -implicitDefEqProofs <;> rfl) call_40 (by simp) (isNaN_int _) (by rfl) (by simp -implicitDefEqProofs <;> rfl) ?_
  refine WpO.run tabOk 1 (by simp -implicitDefEqProofs <;> first | exact ⟨rfl, rfl⟩ | rfl) ?_
  refine WpO.nil ?_
  refine WpC.seq ?_
  refine qR (by simp -implicitDefEqProofs <;> rfl) ?_
  refine WpC.condF (by simp -implicitDefEqProofs <;> rfl) ?_
  refine WpC.skip ?_
  refine WpC.seq ?_
  refine qR (by simp -implicitDefEqProofs <;> rfl) ?_
  refine WpC.condF (by simp -implicitDefEqProofs <;> rfl) ?_
  refine WpC.skip ?_
  refine WpC.seq ?_
  refine qR (by simp -implicitDefEqProofs <;> rfl) ?_
  refine WpC.condD (x < y) (by simp -implicitDefEqProofs) (fun d16 => ?_) (fun d16 => ?_)
  · refine qR (by simp -implicitDefEqProofs [d16] <;> rfl) ?_
    refine WpC.ret ?_
    try simp only [blockQ, seqQ]
    refine retD_i (by simp -implicitDefEqProofs [d16] <;> rfl) (by simp -implicitDefEqProofs [d16] <;> rfl) ?_
    first
    | (simp [cmpI, d16]; done)
    | simp [cmpI, d16, d19]
  refine WpC.skip ?_
  refine WpC.seq ?_
  refine qR (by simp -implicitDefEqProofs [d16] <;> rfl) ?_
  refine WpC.condD (y < x) (by simp -implicitDefEqProofs [d16]) (fun d19 => ?_) (fun d19 => ?_)
  · refine qR (by simp -implicitDefEqProofs [d16, d19] <;> rfl) ?_
    refine WpC.ret ?_
    try simp only [blockQ, seqQ]
    refine retD_i (by simp -implicitDefEqProofs [d16, d19] <;> rfl) (by simp -implicitDefEqProofs [d16, d19] <;> rfl) ?_
    first
    | (simp [cmpI, d16]; done)
    | simp [cmpI, d16, d19]
  refine WpC.skip ?_
  refine qR (by simp -implicitDefEqProofs [d16, d19] <;> rfl) ?_
  refine WpC.ret ?_
  try simp only [blockQ, seqQ]
  refine retD_i (by simp -implicitDefEqProofs [d16, d19] <;> rfl) (by simp -implicitDefEqProofs [d16, d19] <;> rfl) ?_
  first
  | (simp [cmpI, d16]; done)
  | simp [cmpI, d16, d19]
theorem isNaN_byte (x : Int) : Gives Tryd.prog 39 [.d (.int .u8 x)] (.d (.bool false)) := by
  refine Gives.enter tabOk Tryd.func39 rfl (by show 1 ≤ 6; decide) ?_
  simp only [Tryd.f39]
  iterate 2 refine qR (by simp -implicitDefEqProofs <;> rfl) ?_
  refine WpC.ret ?_
  try simp only [blockQ, seqQ]
  refine retD_i (by simp -implicitDefEqProofs <;> rfl) (by simp -implicitDefEqProofs <;> rfl) ?_
  simp -implicitDefEqProofs
theorem cmp_byte (x y : Int) : Gives Tryd.prog 28 [.d (.int .u8 x), .d (.int .u8 y)] (.d (dI (cmpI x y))) := by
  refine Gives.enter tabOk Tryd.func28 rfl (by show 2 ≤ 20; decide) ?_
  simp only [Tryd.f28]
  refine qR (by simp -implicitDefEqProofs <;> rfl) ?_
  refine WpC.seq ?_
  refine WpC.region ?_
  refine WpO.run tabOk 1 (by simp -implicitDefEqProofs <;> first | exact ⟨rfl, rfl⟩ | rfl) ?_
  refine WpO.data (by simp) rfl (by simp -implicitDefEqProofs <;> rfl) (by simp -implicitDefEqProofs <;> rfl) (by simp -implicitDefEqProofs <;> rfl) call_39 (by simp) (isNaN_byte _) (by rfl) (by simp -implicitDefEqProofs <;> rfl) ?_
  refine WpO.run tabOk 1 (by simp -implicitDefEqProofs <;> first | exact ⟨rfl, rfl⟩ | rfl) ?_
  refine WpO.nil ?_
  refine WpC.seq ?_
  refine WpC.region ?_
  refine WpO.run tabOk 1 (by simp -implicitDefEqProofs <;> first | exact ⟨rfl, rfl⟩ | rfl) ?_
  refine WpO.data (by simp) rfl (by simp -implicitDefEqProofs <;> rfl) (by simp -implicitDefEqProofs <;> rfl) (by simp -implicitDefEqProofs <;> rfl) call_39 (by simp) (isNaN_byte _) (by rfl) (by simp -implicitDefEqProofs <;> rfl) ?_
  refine WpO.run tabOk 1 (by simp -implicitDefEqProofs <;> first | exact ⟨rfl, rfl⟩ | rfl) ?_
  refine WpO.nil ?_
  refine WpC.seq ?_
  refine qR (by simp -implicitDefEqProofs <;> rfl) ?_
  refine WpC.condF (by simp -implicitDefEqProofs <;> rfl) ?_
  refine WpC.skip ?_
  refine WpC.seq ?_
  refine qR (by simp -implicitDefEqProofs <;> rfl) ?_
  refine WpC.condF (by simp -implicitDefEqProofs <;> rfl) ?_
  refine WpC.skip ?_
  refine WpC.seq ?_
  refine qR (by simp -implicitDefEqProofs <;> rfl) ?_
  refine WpC.condD (x < y) (by simp -implicitDefEqProofs) (fun d16 => ?_) (fun d16 => ?_)
  · refine qR (by simp -implicitDefEqProofs [d16] <;> rfl) ?_
    refine WpC.ret ?_
    try simp only [blockQ, seqQ]
    refine retD_i (by simp -implicitDefEqProofs [d16] <;> rfl) (by simp -implicitDefEqProofs [d16] <;> rfl) ?_
    first
    | (simp [cmpI, d16]; done)
    | simp [cmpI, d16, d19]
  refine WpC.skip ?_
  refine WpC.seq ?_
  refine qR (by simp -implicitDefEqProofs [d16] <;> rfl) ?_
  refine WpC.condD (y < x) (by simp -implicitDefEqProofs [d16]) (fun d19 => ?_) (fun d19 => ?_)
  · refine qR (by simp -implicitDefEqProofs [d16, d19] <;> rfl) ?_
    refine WpC.ret ?_
    try simp only [blockQ, seqQ]
    refine retD_i (by simp -implicitDefEqProofs [d16, d19] <;> rfl) (by simp -implicitDefEqProofs [d16, d19] <;> rfl) ?_
    first
    | (simp [cmpI, d16]; done)
    | simp [cmpI, d16, d19]
  refine WpC.skip ?_
  refine qR (by simp -implicitDefEqProofs [d16, d19] <;> rfl) ?_
  refine WpC.ret ?_
  try simp only [blockQ, seqQ]
  refine retD_i (by simp -implicitDefEqProofs [d16, d19] <;> rfl) (by simp -implicitDefEqProofs [d16, d19] <;> rfl) ?_
  first
  | (simp [cmpI, d16]; done)
  | simp [cmpI, d16, d19]
def orI (l : List Int) : Int := (l.find? (· ≠ 0)).getD 0
theorem orI_at {xs ys : List Int} {n : Int} (h0 : ∀ x ∈ xs, x = 0) (h1 : n ≠ 0) : orI (xs ++ n :: ys) = n := by
  unfold orI
  rw [List.find?_append, List.find?_eq_none.2 (by simpa using h0)]
  simp [h1]
theorem orI_step {l : List Int} {k : Nat} (h : k < l.length) (h0 : ∀ x ∈ l.take k, x = 0) (h1 : l[k] ≠ 0) : orI l = l[k] := by
  have e : l.take k ++ l[k] :: l.drop (k + 1) = l := by simp
  exact (congrArg orI e).symm.trans (orI_at h0 h1)
theorem or_ok (l : List Int) (hl : l.length ≤ 1000) : Gives Tryd.prog 27 [.d (.list 1 (l.map dI))] (.d (dI (orI l))) := by
  refine Gives.enter tabOk Tryd.func27 rfl (by show 1 ≤ 18; decide) ?_
  simp only [Tryd.f27]
  iterate 2 refine qR (by simp -implicitDefEqProofs <;> rfl) ?_
  refine WpC.seq ?_
  refine qR (by simp -implicitDefEqProofs <;> rfl) ?_
  refine WpC.block ?_
  refine WpC.loopK [6, 7] [3, 8] (l.length) (() : Unit) (fun k _ => [(3, .d (dI 0)), (8, .d (.int .i64 k))]) (fun k _ => []) (fun k _ => ∀ x ∈ l.take k, x = 0) (by simp -implicitDefEqProofs <;> rfl) (Gh.cut' [3, 8, 6, 7] 0 (by simp -implicitDefEqProofs) (by simp -implicitDefEqProofs) rfl (by simp) (by simp) (by simp)) (by simp) ?_
  rintro k ⟨⟩ hk hi
  simp only [List.cons_append, List.nil_append]
  refine qR (by simp -implicitDefEqProofs <;> rfl) ?_
  refine WpC.seq (WpC.condD (k < l.length) (by simp -implicitDefEqProofs <;> omega) (fun hlt => ?_) (fun hge => ?_))
  · refine WpC.skip ?_
    have hkl : k < l.length := by omega
    obtain ⟨n, hn⟩ : ∃ n, l[k] = n := ⟨_, rfl⟩
    have hw : IntKind.i64.wrap ((k : Int) + 1) = k + 1 := wrapI (by omega) (by omega)
    have H1 := And.intro hlt (And.intro hkl (And.intro hn hw))
    refine WpC.seq ?_
    refine WpC.block ?_
    iterate 2 refine qR (by simp -implicitDefEqProofs [H1] <;> rfl) ?_
    refine WpC.condD (n ≠ 0) (by simp -implicitDefEqProofs [H1]) (fun d14 => ?_) (fun d14 => ?_)
    · refine qR (by simp -implicitDefEqProofs [H1, d14] <;> rfl) ?_
      refine WpC.ret ?_
      try simp only [blockQ, seqQ]
      refine retD_i (by simp -implicitDefEqProofs [H1, d14] <;> rfl) (by simp -implicitDefEqProofs [H1, d14] <;> rfl) ?_
      rw [orI_step hkl hi (by rw [hn]; exact d14), hn]
      simp
    refine WpC.skip ?_
    refine qr (by simp -implicitDefEqProofs [H1, d14] <;> rfl) ?_
    exact ⟨hlt, (), by
  intro x hx
  rw [List.take_add_one, List.getElem?_eq_getElem hkl, List.mem_append] at hx
  rcases hx with hx | hx
  · exact hi x hx
  · simp at hx; omega, Gh.cut' [3, 8, 6, 7] 0 (by simp -implicitDefEqProofs [H1, d14]) (by simp) rfl (by simp) (by simp) (by simp)⟩
  refine WpC.exit ?_
  have hkn : k = l.length := by omega
  subst hkn
  rw [List.take_of_length_le (by omega)] at hi
  refine qR (by simp -implicitDefEqProofs <;> rfl) ?_
  refine WpC.ret ?_
  try simp only [blockQ, seqQ]
  refine retD_i (by simp -implicitDefEqProofs <;> rfl) (by simp -implicitDefEqProofs <;> rfl) ?_
  have : orI l = 0 := by
      unfold orI
      rw [List.find?_eq_none.2 (by simpa using hi)]; rfl
  simp [this]

/-- A payment. -/
structure Pm where
  kind : Int
  num : Int
  amt : Int
  deriving DecidableEq, Inhabited
@[reducible] def Pm.cs (p : Pm) : List D := [.int .u8 p.kind, dI p.num, dI p.amt]
@[reducible] def Pm.enc (p : Pm) : D := .agg p.cs
def cmpP (a b : Pm) : Int := orI [cmpI b.kind a.kind, cmpI a.num b.num]
theorem compare_ok (a b : Pm) : Gives Tryd.prog 20 [.d a.enc, .d b.enc] (.d (dI (cmpP a b))) := by
  have ho : Gives Tryd.prog 27 [.d (.list 1 [dI (cmpI b.kind a.kind), dI (cmpI a.num b.num)])] (.d (dI (cmpP a b))) := or_ok [cmpI b.kind a.kind, cmpI a.num b.num] (by simp)
  refine Gives.enter tabOk Tryd.func20 rfl (by show 2 ≤ 17; decide) ?_
  simp only [Tryd.f20]
  refine qR (by simp -implicitDefEqProofs <;> rfl) ?_
  refine WpC.seq ?_
  refine WpC.drawn tabOk (by kernel_rfl) 1 (by simp) ?_
  refine DrO.run (fz := []) 3 (by simp -implicitDefEqProofs <;> first | exact ⟨rfl, rfl, rfl, rfl⟩ | rfl) ?_
  refine DrO.run (fz := []) 1 (by simp -implicitDefEqProofs <;> first | exact ⟨rfl, rfl, rfl, rfl⟩ | rfl) ?_
  refine DrO.data (by simp) rfl (by simp -implicitDefEqProofs <;> rfl) (by simp -implicitDefEqProofs <;> rfl) (by simp -implicitDefEqProofs <;> rfl) call_28 (cmp_byte b.kind a.kind) (by rfl) (by simp -implicitDefEqProofs <;> rfl) ?_
  refine DrO.run (fz := []) 3 (by simp -implicitDefEqProofs <;> first | exact ⟨rfl, rfl, rfl, rfl⟩ | rfl) ?_
  refine DrO.run (fz := []) 1 (by simp -implicitDefEqProofs <;> first | exact ⟨rfl, rfl, rfl, rfl⟩ | rfl) ?_
  refine DrO.data (by simp) rfl (by simp -implicitDefEqProofs <;> rfl) (by simp -implicitDefEqProofs <;> rfl) (by simp -implicitDefEqProofs <;> rfl) call_29 (cmp_int a.num b.num) (by rfl) (by simp -implicitDefEqProofs <;> rfl) ?_
  refine DrO.run (fz := []) 1 (by simp -implicitDefEqProofs <;> first | exact ⟨rfl, rfl, rfl, rfl⟩ | rfl) ?_
  refine DrO.lend (by simp) rfl (by simp -implicitDefEqProofs <;> rfl) (by simp -implicitDefEqProofs <;> rfl) (by simp -implicitDefEqProofs <;> rfl) call_27 (WpF.mono ho fun _ _ h => h.1) (by rfl) (by simp -implicitDefEqProofs <;> rfl) ?_
  refine DrO.run (fz := []) 1 (by simp -implicitDefEqProofs <;> first | exact ⟨rfl, rfl, rfl, rfl⟩ | rfl) ?_
  refine DrO.nil ⟨by kernel_rfl, ?_⟩
  refine WpC.ret ?_
  try simp only [blockQ, seqQ]
  refine retD_i (by simp -implicitDefEqProofs <;> rfl) (by simp -implicitDefEqProofs <;> rfl) ?_
  simp -implicitDefEqProofs
def okB (p : Pm) : Bool := (decide (p.kind = 69) || decide (p.kind = 67)) && decide (1 ≤ p.num) && decide (p.num ≤ 2147483647) && decide (1 ≤ p.amt) && decide (p.amt ≤ 1125899906842624)
/-- Payment k, behind the one ahead of it. -/
def atB (l : List Pm) (k : Nat) : Bool := okB (l.getD k default) && (decide (k = 0) || decide (cmpP (l.getD (k - 1) default) (l.getD k default) < 0))
/-- As the code asks it. -/
def badB (q p : Pm) (k : Nat) : Bool := ((!decide (p.kind = 69)) && !decide (p.kind = 67)) || decide (p.num < 1) || decide (2147483647 < p.num) || decide (p.amt < 1) || decide (1125899906842624 < p.amt) || (decide (0 < k) && decide (0 ≤ cmpP q p))
theorem bad_eq (q p : Pm) (k : Nat) : badB q p k = !(okB p && (decide (k = 0) || decide (cmpP q p < 0))) := by
  rw [Bool.eq_iff_iff]
  simp only [badB, okB, Bool.or_eq_true, Bool.and_eq_true, Bool.not_eq_true', Bool.and_eq_false_iff, Bool.or_eq_false_iff, decide_eq_true_eq, decide_eq_false_iff_not]
  omega
def allB (l : List Pm) (k : Nat) : Bool := (List.range k).all (atB l)
theorem allB_step (l : List Pm) (k : Nat) : allB l (k + 1) = (allB l k && atB l k) := by
  unfold allB
  rw [List.range_succ, List.all_append]; simp
theorem allB_no {l : List Pm} {k n : Nat} (h : k < n) (h2 : atB l k = false) : allB l n = false := by
  unfold allB
  rw [List.all_eq_false]
  exact ⟨k, List.mem_range.2 h, by simp [h2]⟩
def rightB (per : Int) (l : List Pm) : Bool := allB l l.length && decide (22800 ≤ per) && decide (per ≤ 35999) && decide (l.length ≤ 4999)
@[reducible] def encPm (l : List Pm) : D := .list 3 (l.map Pm.enc)
@[reducible] def encF (per : Int) (l : List Pm) : D := .agg [dI per, encPm l]

end Go.Proofs.YtjlamhilnkadcaaDoor.Pay
