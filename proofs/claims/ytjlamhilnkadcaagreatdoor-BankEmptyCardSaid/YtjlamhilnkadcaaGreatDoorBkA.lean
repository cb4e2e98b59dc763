/- bank: payments, their order, Right. No statement of the seed is proved here. -/
import Derived.Test.YtjlamhilnkadcaaGreatDoorPayP
namespace Go.Proofs.YtjlamhilnkadcaaGreatDoor.Pay
open Go Go.RowKit
set_option linter.unusedVariables false
set_option linter.unusedSimpArgs false

def cmpPm (x y : Int) : Int := if x < y then -1 else if y < x then 1 else 0
theorem isNaN_int (x : Int) : Gives Tryz.prog 45 [.d (.int .i64 x)] (.d (.bool false)) := by
  refine Gives.enter tabOk Tryz.func45 rfl (by show 1 ≤ 6; decide) ?_
  simp only [Tryz.f45]
  have H := trivial
  iterate 2 refine zR ?_
  refine WpC.ret ?_
  try simp only [blockQ, seqQ]
  refine zE ?_
  simp -implicitDefEqProofs [H]
theorem cmp_int (x y : Int) : Gives Tryz.prog 25 [.d (.int .i64 x), .d (.int .i64 y)] (.d (dI (cmpPm x y))) := by
  refine Gives.enter tabOk Tryz.func25 rfl (by show 2 ≤ 20; decide) ?_
  simp only [Tryz.f25]
  have H := trivial
  refine zR ?_
  refine WpC.seq ?_
  refine WpC.region ?_
  refine zO 1 ?_
  refine zG call_45 (isNaN_int _) ?_
  refine zO 1 ?_
  refine WpO.nil ?_
  refine WpC.seq ?_
  refine WpC.region ?_
  refine zO 1 ?_
  refine zG call_45 (isNaN_int _) ?_
  refine zO 1 ?_
  refine WpO.nil ?_
  refine WpC.seq ?_
  refine zR ?_
  refine zF ?_
  refine WpC.skip ?_
  refine WpC.seq ?_
  refine zR ?_
  refine zF ?_
  refine WpC.skip ?_
  refine WpC.seq ?_
  refine zR ?_
  refine zD (x < y) (fun d16 => ?_) (fun d16 => ?_)
  ·replace H := And.intro d16 H
   refine zR ?_
   refine WpC.ret ?_
   try simp only [blockQ, seqQ]
   refine zE ?_
   first
   | (simp [cmpPm, d16]; done)
   | simp [cmpPm, d16, d19]
  replace H := And.intro d16 H
  refine WpC.skip ?_
  refine WpC.seq ?_
  refine zR ?_
  refine zD (y < x) (fun d19 => ?_) (fun d19 => ?_)
  ·replace H := And.intro d19 H
   refine zR ?_
   refine WpC.ret ?_
   try simp only [blockQ, seqQ]
   refine zE ?_
   first
   | (simp [cmpPm, d16]; done)
   | simp [cmpPm, d16, d19]
  replace H := And.intro d19 H
  refine WpC.skip ?_
  refine zR ?_
  refine WpC.ret ?_
  try simp only [blockQ, seqQ]
  refine zE ?_
  first
  | (simp [cmpPm, d16]; done)
  | simp [cmpPm, d16, d19]
theorem isNaN_byte (x : Int) : Gives Tryz.prog 44 [.d (.int .u8 x)] (.d (.bool false)) := by
  refine Gives.enter tabOk Tryz.func44 rfl (by show 1 ≤ 6; decide) ?_
  simp only [Tryz.f44]
  have H := trivial
  iterate 2 refine zR ?_
  refine WpC.ret ?_
  try simp only [blockQ, seqQ]
  refine zE ?_
  simp -implicitDefEqProofs [H]
theorem cmp_byte (x y : Int) : Gives Tryz.prog 24 [.d (.int .u8 x), .d (.int .u8 y)] (.d (dI (cmpPm x y))) := by
  refine Gives.enter tabOk Tryz.func24 rfl (by show 2 ≤ 20; decide) ?_
  simp only [Tryz.f24]
  have H := trivial
  refine zR ?_
  refine WpC.seq ?_
  refine WpC.region ?_
  refine zO 1 ?_
  refine zG call_44 (isNaN_byte _) ?_
  refine zO 1 ?_
  refine WpO.nil ?_
  refine WpC.seq ?_
  refine WpC.region ?_
  refine zO 1 ?_
  refine zG call_44 (isNaN_byte _) ?_
  refine zO 1 ?_
  refine WpO.nil ?_
  refine WpC.seq ?_
  refine zR ?_
  refine zF ?_
  refine WpC.skip ?_
  refine WpC.seq ?_
  refine zR ?_
  refine zF ?_
  refine WpC.skip ?_
  refine WpC.seq ?_
  refine zR ?_
  refine zD (x < y) (fun d16 => ?_) (fun d16 => ?_)
  ·replace H := And.intro d16 H
   refine zR ?_
   refine WpC.ret ?_
   try simp only [blockQ, seqQ]
   refine zE ?_
   first
   | (simp [cmpPm, d16]; done)
   | simp [cmpPm, d16, d19]
  replace H := And.intro d16 H
  refine WpC.skip ?_
  refine WpC.seq ?_
  refine zR ?_
  refine zD (y < x) (fun d19 => ?_) (fun d19 => ?_)
  ·replace H := And.intro d19 H
   refine zR ?_
   refine WpC.ret ?_
   try simp only [blockQ, seqQ]
   refine zE ?_
   first
   | (simp [cmpPm, d16]; done)
   | simp [cmpPm, d16, d19]
  replace H := And.intro d19 H
  refine WpC.skip ?_
  refine zR ?_
  refine WpC.ret ?_
  try simp only [blockQ, seqQ]
  refine zE ?_
  first
  | (simp [cmpPm, d16]; done)
  | simp [cmpPm, d16, d19]
def orI (l : List Int) : Int := (l.find? (· ≠ 0)).getD 0
theorem orI_at {xs ys : List Int} {n : Int} (h0 : ∀ x ∈ xs, x = 0) (h1 : n ≠ 0) : orI (xs ++ n :: ys) = n := by
  unfold orI
  rw [List.find?_append, List.find?_eq_none.2 (by simpa using h0)]
  simp [h1]
theorem orI_step {l : List Int} {k : Nat} (h : k < l.length) (h0 : ∀ x ∈ l.take k, x = 0) (h1 : l[k] ≠ 0) : orI l = l[k] := by
  have e : l.take k ++ l[k] :: l.drop (k + 1) = l := by simp
  exact (congrArg orI e).symm.trans (orI_at h0 h1)
theorem or_ok (l : List Int) (hl : l.length ≤ 1000) : Gives Tryz.prog 23 [.d (.list 1 (l.map dI))] (.d (dI (orI l))) := by
  refine Gives.enter tabOk Tryz.func23 rfl (by show 1 ≤ 18; decide) ?_
  simp only [Tryz.f23]
  have H := trivial
  iterate 2 refine zR ?_
  refine WpC.seq ?_
  refine zR ?_
  refine WpC.block ?_
  refine WpC.loopK [6, 7] [3, 8] (l.length) (() : Unit) (fun k _ => [(3, .d (dI 0)), (8, .d (.int .i64 k))]) (fun k _ => []) (fun k _ => ∀ x ∈ l.take k, x = 0) (by simp -implicitDefEqProofs [H] <;> rfl) (Gh.cut' [3, 8, 6, 7] 0 (by simp -implicitDefEqProofs [H]) (by simp -implicitDefEqProofs [H]) rfl (by simp) (by simp) (by simp)) (by simp) ?_
  rintro k ⟨⟩ hk hi
  simp only [List.cons_append, List.nil_append]
  refine zR ?_
  refine WpC.seq (zL (k < l.length) (fun hlt => ?_) (fun hge => ?_))
  ·refine WpC.skip ?_
   have hkl : k < l.length := by omega
   obtain ⟨n, hn⟩ : ∃ n, l[k] = n := ⟨_, rfl⟩
   have hw : IntKind.i64.wrap ((k : Int) + 1) = k + 1 := wrapI (by omega) (by omega)
   replace H := And.intro hlt (And.intro hkl (And.intro hn (And.intro hw H)))
   refine WpC.seq ?_
   refine WpC.block ?_
   iterate 2 refine zR ?_
   refine zD (n ≠ 0) (fun d14 => ?_) (fun d14 => ?_)
   ·replace H := And.intro d14 H
    refine zR ?_
    refine WpC.ret ?_
    try simp only [blockQ, seqQ]
    refine zE ?_
    rw [orI_step hkl hi (by rw [hn]; exact d14), hn]
    simp
   replace H := And.intro d14 H
   refine WpC.skip ?_
   refine zr ?_
   exact ⟨hlt, (), by
      intro x hx
      rw [List.take_add_one, List.getElem?_eq_getElem hkl, List.mem_append] at hx
      rcases hx with hx | hx
      · exact hi x hx
      · simp at hx; omega, Gh.cut' [3, 8, 6, 7] 0 (by simp -implicitDefEqProofs [H]) (by simp) rfl (by simp) (by simp) (by simp)⟩
  refine WpC.exit ?_
  have hkn : k = l.length := by omega
  subst hkn
  rw [List.take_of_length_le (by omega)] at hi
  refine zR ?_
  refine WpC.ret ?_
  try simp only [blockQ, seqQ]
  refine zE ?_
  have : orI l = 0 := by
      unfold orI
      rw [List.find?_eq_none.2 (by simpa using hi)]; rfl
  simp [this]

/-- A payment. -/
structure Pm where
  kind : Int
  num : Int
  amt : Int
  deriving DecidableEq, Inhabited
@[reducible] def Pm.cs (p : Pm) : List D := [.int .u8 p.kind, dI p.num, dI p.amt]
@[reducible] def Pm.enc (p : Pm) : D := .agg p.cs
def cmpP (a b : Pm) : Int := orI [cmpPm b.kind a.kind, cmpPm a.num b.num]
theorem compare_ok (a b : Pm) : Gives Tryz.prog 11 [.d a.enc, .d b.enc] (.d (dI (cmpP a b))) := by
  have ho : Gives Tryz.prog 23 [.d (.list 1 [dI (cmpPm b.kind a.kind), dI (cmpPm a.num b.num)])] (.d (dI (cmpP a b))) := or_ok [cmpPm b.kind a.kind, cmpPm a.num b.num] (by simp)
  refine Gives.enter tabOk Tryz.func11 rfl (by show 2 ≤ 17; decide) ?_
  simp only [Tryz.f11]
  have H := trivial
  refine zR ?_
  refine WpC.seq ?_
  refine WpC.drawn tabOk (by kernel_rfl) 1 (by simp) ?_
  refine yO 3 ?_
  refine yO 1 ?_
  refine yG call_24 (cmp_byte b.kind a.kind) ?_
  refine yO 3 ?_
  refine yO 1 ?_
  refine yG call_25 (cmp_int a.num b.num) ?_
  refine yO 1 ?_
  refine DrO.lend (by simp) rfl (by simp -implicitDefEqProofs [H] <;> rfl) (by simp -implicitDefEqProofs [H] <;> rfl) (by simp -implicitDefEqProofs [H] <;> rfl) call_23 (WpF.mono ho fun _ _ h => h.1) (by rfl) (by simp -implicitDefEqProofs [H] <;> rfl) ?_
  refine yO 1 ?_
  refine DrO.nil ⟨by kernel_rfl, ?_⟩
  refine WpC.ret ?_
  try simp only [blockQ, seqQ]
  refine zE ?_
  simp -implicitDefEqProofs [H]
def okB (p : Pm) : Bool := (decide (p.kind = 69) || decide (p.kind = 67)) && decide (1 ≤ p.num) && decide (p.num ≤ 2147483647) && decide (1 ≤ p.amt) && decide (p.amt ≤ 1125899906842624)
/-- Payment k, behind the one ahead of it. -/
def atB (l : List Pm) (k : Nat) : Bool := okB (l.getD k default) && (decide (k = 0) || decide (cmpP (l.getD (k - 1) default) (l.getD k default) < 0))
/-- As the code asks it. -/
def badB (q p : Pm) (k : Nat) : Bool := ((!decide (p.kind = 69)) && !decide (p.kind = 67)) || decide (p.num < 1) || decide (2147483647 < p.num) || decide (p.amt < 1) || decide (1125899906842624 < p.amt) || (decide (0 < k) && decide (0 ≤ cmpP q p))
theorem bad_eq (q p : Pm) (k : Nat) : badB q p k = !(okB p && (decide (k = 0) || decide (cmpP q p < 0))) := by
  rw [Bool.eq_iff_iff]
  simp only [badB, okB, Bool.or_eq_true, Bool.and_eq_true, Bool.not_eq_true', Bool.and_eq_false_iff, Bool.or_eq_false_iff, decide_eq_true_eq, decide_eq_false_iff_not]
  omega
def allB (l : List Pm) (k : Nat) : Bool := (List.range k).all (atB l)
theorem allB_step (l : List Pm) (k : Nat) : allB l (k + 1) = (allB l k && atB l k) := by
  unfold allB
  rw [List.range_succ, List.all_append]; simp
theorem allB_no {l : List Pm} {k n : Nat} (h : k < n) (h2 : atB l k = false) : allB l n = false := by
  unfold allB
  rw [List.all_eq_false]
  exact ⟨k, List.mem_range.2 h, by simp [h2]⟩
def rightFB (per : Int) (l : List Pm) : Bool := allB l l.length && decide (22800 ≤ per) && decide (per ≤ 35999) && decide (l.length ≤ 4999)
@[reducible] def encPm (l : List Pm) : D := .list 3 (l.map Pm.enc)
@[reducible] def encF (per : Int) (l : List Pm) : D := .agg [dI per, encPm l]

end Go.Proofs.YtjlamhilnkadcaaGreatDoor.Pay
