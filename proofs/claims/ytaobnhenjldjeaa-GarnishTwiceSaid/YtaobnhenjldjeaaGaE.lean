/- What garnish's small functions give. No statement of the seed is proved here. -/
import Derived.Test.YtaobnhenjldjeaaGaD
import Derived.Test.YtaobnhenjldjeaaGaA
namespace Go.Proofs.Ytaobnhenjldjeaa.Pay
open Go Go.RowKit
set_option linter.unusedVariables false
set_option linter.unusedSimpArgs false
set_option linter.unusedSectionVars false

structure Ord where
  cred : Int
  pri : Int
  claim : Int
  bal : Int
def Ord.cs (o : Ord) : List D := [dI o.cred, dI o.pri, dI o.claim, dI o.bal]
def Ord.enc (o : Ord) : D := .agg o.cs
def encOs (l : List Ord) : D := .list 4 (l.map Ord.enc)
attribute [simp] Ord.cs Ord.enc encOs
def Ord.want (o : Ord) : Int := min o.claim o.bal
theorem want_ok (o : Ord) : Gives Try.prog 18 [.d o.enc] (.d (dI o.want)) := by
  refine Gives.enter tabOk Try.func18 rfl (by show 1 ≤ 8; decide) ?_
  simp only [Try.f18]
  refine WpC.seq (WpC.ops tabOk (r := []) (by simp -implicitDefEqProofs [Ord.want] <;> rfl) rfl ?_)
  refine WpC.seq (WpC.ops tabOk (r := []) (by simp -implicitDefEqProofs [Ord.want] <;> rfl) rfl ?_)
  refine WpC.ret ?_
  try simp only [blockQ, seqQ]
  refine retD_i (by simp -implicitDefEqProofs [Ord.want] <;> rfl) (by simp -implicitDefEqProofs [Ord.want] <;> rfl) ?_
  simp -implicitDefEqProofs [Ord.want]
theorem chk1_ok (o : Ord) : Gives Try.prog 24 [.d o.enc] (.d (.bool (decide (o.claim < 0 ∨ o.bal < 0)))) := by
  refine Gives.enter tabOk Try.func24 rfl (by show 1 ≤ 11; decide) ?_
  simp only [Try.f24]
  refine WpC.seq (WpC.ops tabOk (r := []) (by simp -implicitDefEqProofs <;> rfl) rfl ?_)
  refine WpC.seq ?_
  refine WpC.region ?_
  refine WpO.run tabOk 4 (by simp -implicitDefEqProofs <;> first | exact ⟨rfl, rfl⟩ | rfl) ?_
  refine WpO.splitB 6 (by simp -implicitDefEqProofs <;> rfl) (by rfl) (fun g6 => ?_) (fun g6 => ?_)
  · have g6' := g6; first | simp only [dT, dF] at g6' | try simp at g6'
    refine WpO.run tabOk 5 (by simp -implicitDefEqProofs [g6] <;> first | exact ⟨rfl, rfl⟩ | rfl) ?_
    refine WpO.nil ?_
    refine WpC.ret ?_
    try simp only [blockQ, seqQ]
    refine retD_i (by simp -implicitDefEqProofs [g6] <;> rfl) (by simp -implicitDefEqProofs [g6] <;> rfl) ?_
    simp_all <;> omega
  · have g6' := g6; first | simp only [dT, dF] at g6' | try simp at g6'
    refine WpO.run tabOk 5 (by simp -implicitDefEqProofs [g6] <;> first | exact ⟨rfl, rfl⟩ | rfl) ?_
    refine WpO.nil ?_
    refine WpC.ret ?_
    try simp only [blockQ, seqQ]
    refine retD_i (by simp -implicitDefEqProofs [g6] <;> rfl) (by simp -implicitDefEqProofs [g6] <;> rfl) ?_
    simp_all <;> omega
theorem chk2_ok (o : Ord) : Gives Try.prog 25 [.d o.enc] (.d (.bool (decide (1125899906842624 < o.claim ∨ 1125899906842624 < o.bal)))) := by
  refine Gives.enter tabOk Try.func25 rfl (by show 1 ≤ 11; decide) ?_
  simp only [Try.f25]
  refine WpC.seq (WpC.ops tabOk (r := []) (by simp -implicitDefEqProofs <;> rfl) rfl ?_)
  refine WpC.seq ?_
  refine WpC.region ?_
  refine WpO.run tabOk 4 (by simp -implicitDefEqProofs <;> first | exact ⟨rfl, rfl⟩ | rfl) ?_
  refine WpO.splitB 6 (by simp -implicitDefEqProofs <;> rfl) (by rfl) (fun g6 => ?_) (fun g6 => ?_)
  · have g6' := g6; first | simp only [dT, dF] at g6' | try simp at g6'
    refine WpO.run tabOk 5 (by simp -implicitDefEqProofs [g6] <;> first | exact ⟨rfl, rfl⟩ | rfl) ?_
    refine WpO.nil ?_
    refine WpC.ret ?_
    try simp only [blockQ, seqQ]
    refine retD_i (by simp -implicitDefEqProofs [g6] <;> rfl) (by simp -implicitDefEqProofs [g6] <;> rfl) ?_
    simp_all <;> omega
  · have g6' := g6; first | simp only [dT, dF] at g6' | try simp at g6'
    refine WpO.run tabOk 5 (by simp -implicitDefEqProofs [g6] <;> first | exact ⟨rfl, rfl⟩ | rfl) ?_
    refine WpO.nil ?_
    refine WpC.ret ?_
    try simp only [blockQ, seqQ]
    refine retD_i (by simp -implicitDefEqProofs [g6] <;> rfl) (by simp -implicitDefEqProofs [g6] <;> rfl) ?_
    simp_all <;> omega
theorem indexO1_ok (l : List Ord) (hl : l.length ≤ 1000000000) : Gives Try.prog 39 [.d (encOs l), .fn 24 []] (.d (dI (idxP (fun x : Ord => decide (x.claim < 0 ∨ x.bal < 0)) l))) := by
  obtain ⟨f, hf⟩ : ∃ f : Ord → Bool, (fun x : Ord => decide (x.claim < 0 ∨ x.bal < 0)) = f := ⟨_, rfl⟩
  have hff : ∀ x : Ord, decide (x.claim < 0 ∨ x.bal < 0) = f x := fun x => by rw [← hf]
  rw [hf]
  refine Gives.enter tabOk Try.func39 rfl (by show 2 ≤ 19; decide) ?_
  simp only [Try.f39]
  refine WpC.seq (WpC.ops tabOk (r := []) (by simp -implicitDefEqProofs <;> rfl) rfl ?_)
  refine WpC.seq ?_
  refine WpC.seq (WpC.ops tabOk (r := []) (by simp -implicitDefEqProofs <;> rfl) rfl ?_)
  refine WpC.block ?_
  refine WpC.loopK [0, 1, 7] [8] (l.length) (() : Unit) (fun k _ => [(8, .d (.int .i64 k))]) (fun k _ => []) (fun k _ => (l.take k).any f = false) (by simp -implicitDefEqProofs <;> rfl) (Gh.cut' [8, 0, 1, 7] 0 (by simp -implicitDefEqProofs) (by simp -implicitDefEqProofs) rfl (by simp) (by simp) (by simp)) (by simp) ?_
  rintro k ⟨⟩ hk hi
  simp only [List.cons_append, List.nil_append]
  refine WpC.seq (WpC.ops tabOk (r := []) (by simp -implicitDefEqProofs <;> rfl) rfl ?_)
  refine WpC.seq (WpC.condD (k < l.length) (by simp -implicitDefEqProofs <;> omega) (fun hlt => ?_) (fun hge => ?_))
  · refine WpC.skip ?_
    have hst := any_take f hlt
    obtain ⟨x, hx⟩ : ∃ x, l[k] = x := ⟨_, rfl⟩
    have hw : IntKind.i64.wrap ((k : Int) + 1) = k + 1 := wrapI (by omega) (by omega)
    have hfi := find_take f hlt hi
    rw [hi, hx] at hst
    rw [hx] at hfi
    have hck := chk1_ok x
    rw [hff] at hck
    refine WpC.seq ?_
    refine WpC.block ?_
    refine WpC.seq (WpC.ops tabOk (r := []) (by simp -implicitDefEqProofs [hlt, hx, hw] <;> rfl) rfl ?_)
    refine WpC.seq ?_
    refine WpC.region ?_
    refine WpO.run tabOk 5 (by simp -implicitDefEqProofs [hlt, hx, hw] <;> first | exact ⟨rfl, rfl⟩ | rfl) ?_
    refine WpO.data (by simp) rfl (by simp -implicitDefEqProofs [hlt, hx, hw] <;> rfl) (by simp -implicitDefEqProofs [hlt, hx, hw] <;> rfl) (by simp -implicitDefEqProofs [hlt, hx, hw] <;> rfl) call_24 (by simp) (hck) (by rfl) (by simp -implicitDefEqProofs [hlt, hx, hw] <;> rfl) ?_
    refine WpO.nil ?_
    refine WpC.condR (by simp -implicitDefEqProofs [hlt, hx, hw] <;> rfl) (by rfl) (fun c16 => ?_) (fun c16 => ?_)
    · have c16' := c16; first | simp only [dT, dF] at c16' | try simp at c16'
      refine WpC.seq (WpC.ops tabOk (r := []) (by simp -implicitDefEqProofs [hlt, hx, hw, c16] <;> rfl) rfl ?_)
      refine WpC.ret ?_
      try simp only [blockQ, seqQ]
      refine retD_i (by simp -implicitDefEqProofs [hlt, hx, hw, c16] <;> rfl) (by simp -implicitDefEqProofs [hlt, hx, hw, c16] <;> rfl) ?_
      have := hfi (by simpa using c16)
      simp [idxP, this]
    · have c16' := c16; first | simp only [dT, dF] at c16' | try simp at c16'
      refine WpC.skip ?_
      refine WpC.ops tabOk (r := []) (by simp -implicitDefEqProofs [hlt, hx, hw, c16] <;> rfl) rfl ?_
      exact ⟨hlt, (), by rw [hst]; simpa using c16, Gh.cut' [8, 0, 1, 7] 0 (by simp -implicitDefEqProofs [hlt, hx, hw, c16, c16']) (by simp) rfl (by simp) (by simp) (by simp)⟩
  · refine WpC.exit ?_
    have hkn : k = l.length := by omega
    subst hkn
    rw [List.take_of_length_le (Nat.le_refl _)] at hi
    refine WpC.seq (WpC.ops tabOk (r := []) (by simp -implicitDefEqProofs <;> rfl) rfl ?_)
    refine WpC.ret ?_
    try simp only [blockQ, seqQ]
    refine retD_i (by simp -implicitDefEqProofs <;> rfl) (by simp -implicitDefEqProofs <;> rfl) ?_
    have : l.findIdx? f = none := by rw [List.findIdx?_eq_none_iff]; simpa using hi
    simp [idxP, this]
theorem indexO2_ok (l : List Ord) (hl : l.length ≤ 1000000000) : Gives Try.prog 39 [.d (encOs l), .fn 25 []] (.d (dI (idxP (fun x : Ord => decide (1125899906842624 < x.claim ∨ 1125899906842624 < x.bal)) l))) := by
  obtain ⟨f, hf⟩ : ∃ f : Ord → Bool, (fun x : Ord => decide (1125899906842624 < x.claim ∨ 1125899906842624 < x.bal)) = f := ⟨_, rfl⟩
  have hff : ∀ x : Ord, decide (1125899906842624 < x.claim ∨ 1125899906842624 < x.bal) = f x := fun x => by rw [← hf]
  rw [hf]
  refine Gives.enter tabOk Try.func39 rfl (by show 2 ≤ 19; decide) ?_
  simp only [Try.f39]
  refine WpC.seq (WpC.ops tabOk (r := []) (by simp -implicitDefEqProofs <;> rfl) rfl ?_)
  refine WpC.seq ?_
  refine WpC.seq (WpC.ops tabOk (r := []) (by simp -implicitDefEqProofs <;> rfl) rfl ?_)
  refine WpC.block ?_
  refine WpC.loopK [0, 1, 7] [8] (l.length) (() : Unit) (fun k _ => [(8, .d (.int .i64 k))]) (fun k _ => []) (fun k _ => (l.take k).any f = false) (by simp -implicitDefEqProofs <;> rfl) (Gh.cut' [8, 0, 1, 7] 0 (by simp -implicitDefEqProofs) (by simp -implicitDefEqProofs) rfl (by simp) (by simp) (by simp)) (by simp) ?_
  rintro k ⟨⟩ hk hi
  simp only [List.cons_append, List.nil_append]
  refine WpC.seq (WpC.ops tabOk (r := []) (by simp -implicitDefEqProofs <;> rfl) rfl ?_)
  refine WpC.seq (WpC.condD (k < l.length) (by simp -implicitDefEqProofs <;> omega) (fun hlt => ?_) (fun hge => ?_))
  · refine WpC.skip ?_
    have hst := any_take f hlt
    obtain ⟨x, hx⟩ : ∃ x, l[k] = x := ⟨_, rfl⟩
    have hw : IntKind.i64.wrap ((k : Int) + 1) = k + 1 := wrapI (by omega) (by omega)
    have hfi := find_take f hlt hi
    rw [hi, hx] at hst
    rw [hx] at hfi
    have hck := chk2_ok x
    rw [hff] at hck
    refine WpC.seq ?_
    refine WpC.block ?_
    refine WpC.seq (WpC.ops tabOk (r := []) (by simp -implicitDefEqProofs [hlt, hx, hw] <;> rfl) rfl ?_)
    refine WpC.seq ?_
    refine WpC.region ?_
    refine WpO.run tabOk 5 (by simp -implicitDefEqProofs [hlt, hx, hw] <;> first | exact ⟨rfl, rfl⟩ | rfl) ?_
    refine WpO.data (by simp) rfl (by simp -implicitDefEqProofs [hlt, hx, hw] <;> rfl) (by simp -implicitDefEqProofs [hlt, hx, hw] <;> rfl) (by simp -implicitDefEqProofs [hlt, hx, hw] <;> rfl) call_25 (by simp) (hck) (by rfl) (by simp -implicitDefEqProofs [hlt, hx, hw] <;> rfl) ?_
    refine WpO.nil ?_
    refine WpC.condR (by simp -implicitDefEqProofs [hlt, hx, hw] <;> rfl) (by rfl) (fun c16 => ?_) (fun c16 => ?_)
    · have c16' := c16; first | simp only [dT, dF] at c16' | try simp at c16'
      refine WpC.seq (WpC.ops tabOk (r := []) (by simp -implicitDefEqProofs [hlt, hx, hw, c16] <;> rfl) rfl ?_)
      refine WpC.ret ?_
      try simp only [blockQ, seqQ]
      refine retD_i (by simp -implicitDefEqProofs [hlt, hx, hw, c16] <;> rfl) (by simp -implicitDefEqProofs [hlt, hx, hw, c16] <;> rfl) ?_
      have := hfi (by simpa using c16)
      simp [idxP, this]
    · have c16' := c16; first | simp only [dT, dF] at c16' | try simp at c16'
      refine WpC.skip ?_
      refine WpC.ops tabOk (r := []) (by simp -implicitDefEqProofs [hlt, hx, hw, c16] <;> rfl) rfl ?_
      exact ⟨hlt, (), by rw [hst]; simpa using c16, Gh.cut' [8, 0, 1, 7] 0 (by simp -implicitDefEqProofs [hlt, hx, hw, c16, c16']) (by simp) rfl (by simp) (by simp) (by simp)⟩
  · refine WpC.exit ?_
    have hkn : k = l.length := by omega
    subst hkn
    rw [List.take_of_length_le (Nat.le_refl _)] at hi
    refine WpC.seq (WpC.ops tabOk (r := []) (by simp -implicitDefEqProofs <;> rfl) rfl ?_)
    refine WpC.ret ?_
    try simp only [blockQ, seqQ]
    refine retD_i (by simp -implicitDefEqProofs <;> rfl) (by simp -implicitDefEqProofs <;> rfl) ?_
    have : l.findIdx? f = none := by rw [List.findIdx?_eq_none_iff]; simpa using hi
    simp [idxP, this]
theorem containsO1_ok (l : List Ord) (hl : l.length ≤ 1000000000) : Gives Try.prog 23 [.d (encOs l), .fn 24 []] (.d (.bool (l.any fun x => decide (x.claim < 0 ∨ x.bal < 0)))) := by
  refine Gives.enter tabOk Try.func23 rfl (by show 2 ≤ 9; decide) ?_
  simp only [Try.f23]
  refine WpC.seq (WpC.ops tabOk (r := []) (by simp -implicitDefEqProofs <;> rfl) rfl ?_)
  refine WpC.seq ?_
  refine WpC.region ?_
  refine WpO.run tabOk 2 (by simp -implicitDefEqProofs <;> first | exact ⟨rfl, rfl⟩ | rfl) ?_
  refine WpO.data (by simp) rfl (by simp -implicitDefEqProofs <;> rfl) (by simp -implicitDefEqProofs <;> rfl) (by simp -implicitDefEqProofs <;> rfl) call_39 (by simp) (indexO1_ok l hl) (by rfl) (by simp -implicitDefEqProofs <;> rfl) ?_
  refine WpO.run tabOk 2 (by simp -implicitDefEqProofs <;> first | exact ⟨rfl, rfl⟩ | rfl) ?_
  refine WpO.nil ?_
  refine WpC.ret ?_
  try simp only [blockQ, seqQ]
  refine retD_i (by simp -implicitDefEqProofs <;> rfl) (by simp -implicitDefEqProofs <;> rfl) ?_
  simp [← idxP_any]
theorem containsO2_ok (l : List Ord) (hl : l.length ≤ 1000000000) : Gives Try.prog 23 [.d (encOs l), .fn 25 []] (.d (.bool (l.any fun x => decide (1125899906842624 < x.claim ∨ 1125899906842624 < x.bal)))) := by
  refine Gives.enter tabOk Try.func23 rfl (by show 2 ≤ 9; decide) ?_
  simp only [Try.f23]
  refine WpC.seq (WpC.ops tabOk (r := []) (by simp -implicitDefEqProofs <;> rfl) rfl ?_)
  refine WpC.seq ?_
  refine WpC.region ?_
  refine WpO.run tabOk 2 (by simp -implicitDefEqProofs <;> first | exact ⟨rfl, rfl⟩ | rfl) ?_
  refine WpO.data (by simp) rfl (by simp -implicitDefEqProofs <;> rfl) (by simp -implicitDefEqProofs <;> rfl) (by simp -implicitDefEqProofs <;> rfl) call_39 (by simp) (indexO2_ok l hl) (by rfl) (by simp -implicitDefEqProofs <;> rfl) ?_
  refine WpO.run tabOk 2 (by simp -implicitDefEqProofs <;> first | exact ⟨rfl, rfl⟩ | rfl) ?_
  refine WpO.nil ?_
  refine WpC.ret ?_
  try simp only [blockQ, seqQ]
  refine retD_i (by simp -implicitDefEqProofs <;> rfl) (by simp -implicitDefEqProofs <;> rfl) ?_
  simp [← idxP_any]
def chkE (net prot : Int) (l : List Ord) : Int :=
  if 8 < l.length then 9 else if prot < 0 ∨ (l.any fun x => decide (x.claim < 0 ∨ x.bal < 0)) = true then 1 else
    if (1125899906842624 < net ∨ net < -1125899906842624) ∨ 1125899906842624 < prot ∨ (l.any fun x => decide (1125899906842624 < x.claim ∨ 1125899906842624 < x.bal)) = true then 3 else 0
theorem check_ok (net prot : Int) (l : List Ord) (hl : l.length ≤ 1000000000) : Gives Try.prog 16 [.d (dI net), .d (dI prot), .d (encOs l)] (.d (dI (chkE net prot l))) := by
  have h1 := containsO1_ok l hl
  have h2 := containsO2_ok l hl
  unfold chkE
  obtain ⟨b1, hb1⟩ : ∃ b, (l.any fun x => decide (x.claim < 0 ∨ x.bal < 0)) = b := ⟨_, rfl⟩
  obtain ⟨b2, hb2⟩ : ∃ b, (l.any fun x => decide (1125899906842624 < x.claim ∨ 1125899906842624 < x.bal)) = b := ⟨_, rfl⟩
  rw [hb1] at h1 ⊢
  rw [hb2] at h2 ⊢
  refine Gives.enter tabOk Try.func16 rfl (by show 3 ≤ 33; decide) ?_
  simp only [Try.f16]
  refine WpC.seq (WpC.ops tabOk (r := []) (by simp -implicitDefEqProofs <;> rfl) rfl ?_)
  refine WpC.seq ?_
  refine WpC.block ?_
  refine WpC.seq (WpC.ops tabOk (r := []) (by simp -implicitDefEqProofs <;> rfl) rfl ?_)
  refine WpC.condD ((8 : Int) < l.length) (by simp -implicitDefEqProofs) (fun d7 => ?_) (fun d7 => ?_)
  · refine WpC.seq (WpC.ops tabOk (r := []) (by simp -implicitDefEqProofs [d7] <;> rfl) rfl ?_)
    refine WpC.ret ?_
    try simp only [blockQ, seqQ]
    refine retD_i (by simp -implicitDefEqProofs [d7] <;> rfl) (by simp -implicitDefEqProofs [d7] <;> rfl) ?_
    have := d7
    rw [if_pos (by omega)]
    simp
  · refine WpC.seq ?_
    refine WpC.val 11 (.d (.bool (decide (prot < 0 ∨ b1 = true)))) ?_ ?_
    · refine WpC.region ?_
      refine WpO.run tabOk 3 (by simp -implicitDefEqProofs [d7] <;> first | exact ⟨rfl, rfl⟩ | rfl) ?_
      refine WpO.splitB 14 (by simp -implicitDefEqProofs [d7] <;> rfl) (by rfl) (fun g14 => ?_) (fun g14 => ?_)
      · have g14' := g14; first | simp only [dT, dF] at g14' | try simp at g14'
        refine WpO.run tabOk 4 (by simp -implicitDefEqProofs [d7, g14] <;> first | exact ⟨rfl, rfl⟩ | rfl) ?_
        refine WpO.nil ?_
        refine ⟨rfl, Gh.only 11 8 ?_ (by first | rfl | simp -implicitDefEqProofs [d7, g14]) (by rfl)⟩
        simp -implicitDefEqProofs [d7, g14, g14']
      · have g14' := g14; first | simp only [dT, dF] at g14' | try simp at g14'
        refine WpO.run tabOk 1 (by simp -implicitDefEqProofs [d7, g14] <;> first | exact ⟨rfl, rfl⟩ | rfl) ?_
        refine WpO.data (by simp) rfl (by simp -implicitDefEqProofs [d7, g14] <;> rfl) (by simp -implicitDefEqProofs [d7, g14] <;> rfl) (by simp -implicitDefEqProofs [d7, g14] <;> rfl) call_23 (by simp) (h1) (by rfl) (by simp -implicitDefEqProofs [d7, g14] <;> rfl) ?_
        refine WpO.run tabOk 2 (by simp -implicitDefEqProofs [d7, g14] <;> first | exact ⟨rfl, rfl⟩ | rfl) ?_
        refine WpO.nil ?_
        refine ⟨rfl, Gh.only 11 8 ?_ (by first | rfl | simp -implicitDefEqProofs [d7, g14]) (by rfl)⟩
        simp -implicitDefEqProofs [d7, g14, g14']
    refine WpC.condD (prot < 0 ∨ b1 = true) (by simp -implicitDefEqProofs [d7]) (fun d11 => ?_) (fun d11 => ?_)
    · refine WpC.seq (WpC.ops tabOk (r := []) (by simp -implicitDefEqProofs [d7, d11] <;> rfl) rfl ?_)
      refine WpC.ret ?_
      try simp only [blockQ, seqQ]
      refine retD_i (by simp -implicitDefEqProofs [d7, d11] <;> rfl) (by simp -implicitDefEqProofs [d7, d11] <;> rfl) ?_
      have := d7
      rw [if_neg (by omega), if_pos d11]
      simp
    · refine WpC.seq ?_
      refine WpC.val 18 (.d (.bool (decide ((1125899906842624 < net ∨ net < -1125899906842624) ∨ 1125899906842624 < prot ∨ b2 = true)))) ?_ ?_
      · refine WpC.region ?_
        refine WpO.run tabOk 3 (by simp -implicitDefEqProofs [d7, d11] <;> first | exact ⟨rfl, rfl⟩ | rfl) ?_
        refine WpO.splitB 21 (by simp -implicitDefEqProofs [d7, d11] <;> rfl) (by rfl) (fun g21 => ?_) (fun g21 => ?_)
        · have g21' := g21; first | simp only [dT, dF] at g21' | try simp at g21'
          refine WpO.run tabOk 12 (by simp -implicitDefEqProofs [d7, d11, g21] <;> first | exact ⟨rfl, rfl⟩ | rfl) ?_
          refine WpO.nil ?_
          refine ⟨rfl, Gh.only 18 16 ?_ (by first | rfl | simp -implicitDefEqProofs [d7, d11, g21]) (by rfl)⟩
          simp -implicitDefEqProofs [d7, d11, g21, g21']
        · have g21' := g21; first | simp only [dT, dF] at g21' | try simp at g21'
          refine WpO.run tabOk 4 (by simp -implicitDefEqProofs [d7, d11, g21] <;> first | exact ⟨rfl, rfl⟩ | rfl) ?_
          refine WpO.splitB 25 (by simp -implicitDefEqProofs [d7, d11, g21] <;> rfl) (by rfl) (fun g25 => ?_) (fun g25 => ?_)
          · have g25' := g25; first | simp only [dT, dF] at g25' | try simp at g25'
            refine WpO.run tabOk 8 (by simp -implicitDefEqProofs [d7, d11, g21, g25] <;> first | exact ⟨rfl, rfl⟩ | rfl) ?_
            refine WpO.nil ?_
            refine ⟨rfl, Gh.only 18 17 ?_ (by first | rfl | simp -implicitDefEqProofs [d7, d11, g21, g25]) (by rfl)⟩
            simp -implicitDefEqProofs [d7, d11, g21, g25, g21', g25']
          · have g25' := g25; first | simp only [dT, dF] at g25' | try simp at g25'
            refine WpO.run tabOk 4 (by simp -implicitDefEqProofs [d7, d11, g21, g25] <;> first | exact ⟨rfl, rfl⟩ | rfl) ?_
            refine WpO.splitB 29 (by simp -implicitDefEqProofs [d7, d11, g21, g25] <;> rfl) (by rfl) (fun g29 => ?_) (fun g29 => ?_)
            · have g29' := g29; first | simp only [dT, dF] at g29' | try simp at g29'
              refine WpO.run tabOk 4 (by simp -implicitDefEqProofs [d7, d11, g21, g25, g29] <;> first | exact ⟨rfl, rfl⟩ | rfl) ?_
              refine WpO.nil ?_
              refine ⟨rfl, Gh.only 18 18 ?_ (by first | rfl | simp -implicitDefEqProofs [d7, d11, g21, g25, g29]) (by rfl)⟩
              simp -implicitDefEqProofs [d7, d11, g21, g25, g29, g21', g25', g29']
            · have g29' := g29; first | simp only [dT, dF] at g29' | try simp at g29'
              refine WpO.run tabOk 1 (by simp -implicitDefEqProofs [d7, d11, g21, g25, g29] <;> first | exact ⟨rfl, rfl⟩ | rfl) ?_
              refine WpO.data (by simp) rfl (by simp -implicitDefEqProofs [d7, d11, g21, g25, g29] <;> rfl) (by simp -implicitDefEqProofs [d7, d11, g21, g25, g29] <;> rfl) (by simp -implicitDefEqProofs [d7, d11, g21, g25, g29] <;> rfl) call_23 (by simp) (h2) (by rfl) (by simp -implicitDefEqProofs [d7, d11, g21, g25, g29] <;> rfl) ?_
              refine WpO.run tabOk 2 (by simp -implicitDefEqProofs [d7, d11, g21, g25, g29] <;> first | exact ⟨rfl, rfl⟩ | rfl) ?_
              refine WpO.nil ?_
              refine ⟨rfl, Gh.only 18 18 ?_ (by first | rfl | simp -implicitDefEqProofs [d7, d11, g21, g25, g29]) (by rfl)⟩
              simp -implicitDefEqProofs [d7, d11, g21, g25, g29, g21', g25', g29']
      refine WpC.condD ((1125899906842624 < net ∨ net < -1125899906842624) ∨ 1125899906842624 < prot ∨ b2 = true) (by simp -implicitDefEqProofs [d7, d11]) (fun d18 => ?_) (fun d18 => ?_)
      · refine WpC.seq (WpC.ops tabOk (r := []) (by simp -implicitDefEqProofs [d7, d11, d18] <;> rfl) rfl ?_)
        refine WpC.ret ?_
        try simp only [blockQ, seqQ]
        refine retD_i (by simp -implicitDefEqProofs [d7, d11, d18] <;> rfl) (by simp -implicitDefEqProofs [d7, d11, d18] <;> rfl) ?_
        have := d7
        rw [if_neg (by omega), if_neg d11, if_pos d18]
        simp
      · refine WpC.skip ?_
        refine WpC.seq (WpC.ops tabOk (r := []) (by simp -implicitDefEqProofs [d7, d11, d18] <;> rfl) rfl ?_)
        refine WpC.ret ?_
        try simp only [blockQ, seqQ]
        refine retD_i (by simp -implicitDefEqProofs [d7, d11, d18] <;> rfl) (by simp -implicitDefEqProofs [d7, d11, d18] <;> rfl) ?_
        have := d7
        rw [if_neg (by omega), if_neg d11, if_neg d18]
        simp
theorem cloneO_ok (xs : List D) (hl : xs.length ≤ 1000000000) : GivesRow Try.prog 22 [.d (.list 4 xs)] 35 4 xs := by
  refine WpF.enter tabOk Try.func22 rfl (by show 1 ≤ 8; decide) ?_
  simp only [Try.f22]
  refine WpC.seq (WpC.ops tabOk (r := []) (by simp -implicitDefEqProofs <;> rfl) rfl ?_)
  refine WpC.seq ?_
  refine WpC.seq ?_
  refine WpC.region ?_
  refine WpO.run tabOk 1 (by simp <;> first | exact ⟨rfl, rfl⟩ | rfl) ?_
  refine WpO.nilEq (k := 4) (xs := xs) tabOk (by simp) rfl (by simp; rfl) rfl (by simp) fun b hb => ⟨_, by simp; rfl, WpO.nil ?_⟩
  refine WpC.condR (by simp -implicitDefEqProofs <;> rfl) (by rfl) (fun c4 => ?_) (fun c4 => ?_)
  · have c4' := c4; first | simp only [dT, dF] at c4' | try simp at c4'
    refine WpC.seq (WpC.ops tabOk (r := []) (by simp -implicitDefEqProofs [c4] <;> rfl) rfl ?_)
    have := hb c4
    subst this
    refine WpC.gh (Gh.nilArr 35 4 (t := 2) (by simp) (by simp)) ?_
    refine WpC.gh (Gh.pick [2] [0] (by simp; rfl) (env' := [(2, .sl 0 0)]) (by simp) (by simp) (by simp) (by simp; rfl) (S' := [.arr 35 4 []]) (by simp) (by simp)) (WpC.ret ?_)
    simp
  · have c4' := c4; first | simp only [dT, dF] at c4' | try simp at c4'
    have hsm : xs.length ≤ 8589934592 := by omega
    refine WpC.skip ?_
    refine WpC.seq (WpC.ops tabOk (r := []) (by simp -implicitDefEqProofs [c4, hsm] <;> rfl) rfl ?_)
    refine WpC.gh (Gh.pick [2] [1] (by simp; rfl) (env' := [(2, .sl 0 xs.length)]) (by simp) (by simp) (by simp) (by simp; rfl) (S' := [.arr 35 4 xs]) (by simp) (by simp)) (WpC.ret ?_)
    simp

def priF (l : List Ord) (i : Nat) : Int := ((l[i]?).map Ord.pri).getD 0
def wantF (l : List Ord) (i : Nat) : Int := ((l[i]?).map Ord.want).getD 0
theorem rowF_add (f : Nat → Int) (k : Nat) : rowF f (k + 1) = rowF f k ++ [dI (f k)] := by simp [rowF, List.range_succ]
theorem prs_of {l : List Ord} {h h2 : Nat → Int} {n m : Nat} (hn : l.length = n) (hm : Mv 0 n (priF l) h) (hr : Rch 0 n (priF l) h) (hk : Kept h h2 n m) : Prs (priF l) n ((List.range m).map h2) := by
  refine ⟨fun i j hi hj hij => ?_, fun i hi => ?_, fun p hp => ?_⟩
  · simp only [List.length_map, List.length_range] at hi hj
    simp only [List.getElem_map, List.getElem_range]
    exact hk.up i j hij hj
  · obtain ⟨j, _, hj, e⟩ := hr i (Nat.zero_le _) hi
    obtain ⟨q, hq, e2⟩ := hk.all j hj
    rw [← e, ← e2]
    exact List.mem_map.2 ⟨q, List.mem_range.2 hq, rfl⟩
  · obtain ⟨q, hq, rfl⟩ := List.mem_map.1 hp
    obtain ⟨j, hj, e⟩ := hk.some q (List.mem_range.1 hq)
    obtain ⟨i, _, hi, e2⟩ := hm.src j (Nat.zero_le _) hj
    exact ⟨i, hi, by rw [e, e2]⟩
set_option maxHeartbeats 4000000 in
theorem prios_ok (l : List Ord) (n : Nat) (hn : l.length = n) (hl : n ≤ 12) : WpF Try.prog 17 [.d (encOs l)] [] fun r S => ∃ h m, m ≤ n ∧ r = .sl 0 m ∧ S = [.arr 3 1 (rowF h n)] ∧ Prs (priF l) n ((List.range m).map h) := by
  have hso := sort_ok (priF l) n hl
  obtain ⟨pf, hpf⟩ : ∃ pf, priF l = pf := ⟨_, rfl⟩
  have hpi : ∀ i (h : i < l.length), pf i = l[i].pri := fun i h => by rw [← hpf]; unfold priF; rw [List.getElem?_eq_getElem h]; rfl
  rw [hpf] at hso
  have hz0 : rowF pf 0 = [] := rfl
  refine WpF.enter tabOk Try.func17 rfl (by show 1 ≤ 22; decide) ?_
  simp only [Try.f17]
  refine WpC.seq (WpC.ops tabOk (r := []) (by simp -implicitDefEqProofs [hn, hz0] <;> rfl) rfl ?_)
  refine WpC.seq (WpC.ops tabOk (r := []) (by simp -implicitDefEqProofs [hn, hz0] <;> rfl) rfl ?_)
  refine WpC.seq ?_
  refine WpC.gh (Gh.nilArr 3 1 (t := 3) (by simp) (by simp)) ?_
  refine WpC.seq (WpC.ops tabOk (r := []) (by simp -implicitDefEqProofs [hn, hz0] <;> rfl) rfl ?_)
  refine WpC.block ?_
  refine WpC.loopK [6, 7] [3, 8] (n) (() : Unit) (fun k _ => [(3, .sl 0 k), (8, .d (.int .i64 k))]) (fun k _ => [.arr 3 1 (rowF pf k)]) (fun k _ => True) (by simp -implicitDefEqProofs [hn, hz0] <;> rfl) (Gh.cut' [3, 8, 6, 7] 1 (by simp -implicitDefEqProofs [hn, hz0]) (by simp -implicitDefEqProofs [hn, hz0]) rfl (by simp) (by simp) (by simp)) (by simp) ?_
  rintro k ⟨⟩ hk hi
  simp only [List.cons_append, List.nil_append]
  refine WpC.seq (WpC.ops tabOk (r := []) (by simp -implicitDefEqProofs [hn, hz0] <;> rfl) rfl ?_)
  refine WpC.seq (WpC.condD (k < n) (by simp -implicitDefEqProofs [hn, hz0] <;> omega) (fun hlt => ?_) (fun hge => ?_))
  · refine WpC.skip ?_
    have hkl : k < l.length := by omega
    obtain ⟨x, hx⟩ : ∃ x, l[k] = x := ⟨_, rfl⟩
    have hpx := hpi k hkl
    rw [hx] at hpx
    have hra := rowF_add pf k
    rw [hpx] at hra
    have hkw : IntKind.i64.wrap ((k : Int) + 1) = k + 1 := wrapI (by omega) (by omega)
    have hks : k ≤ 8589934591 := by omega
    refine WpC.seq ?_
    refine WpC.block ?_
    refine WpC.seq (WpC.ops tabOk (r := []) (by simp -implicitDefEqProofs [hn, hz0, hlt, hkl, hx, hkw, hks] <;> rfl) rfl ?_)
    refine WpC.ops tabOk (r := []) (by simp -implicitDefEqProofs [hn, hz0, hlt, hkl, hx, hkw, hks] <;> rfl) rfl ?_
    refine WpC.ops tabOk (r := []) (by simp -implicitDefEqProofs [hn, hz0, hlt, hkl, hx, hkw, hks] <;> rfl) rfl ?_
    exact ⟨hlt, (), trivial, Gh.pick [3, 8, 6, 7] [3] (by simp -implicitDefEqProofs [hn, hz0, hlt, hkl, hx, hkw, hks, hra]; rfl) (by simp -implicitDefEqProofs [hn, hz0, hlt, hkl, hx, hkw, hks, hra]) (by simp) (by simp) (by simp; rfl) (by simp -implicitDefEqProofs [hn, hz0, hlt, hkl, hx, hkw, hks, hra]) (by simp)⟩
  · refine WpC.exit ?_
    have hkn : n = k := by omega
    subst hkn
    refine WpC.seq ?_
    refine WpC.region ?_
    refine WpO.run tabOk 1 (by simp -implicitDefEqProofs [hn, hz0] <;> first | exact ⟨rfl, rfl⟩ | rfl) ?_
    refine WpO.callP [0] (by simp) rfl (by simp -implicitDefEqProofs [hn, hz0] <;> rfl) (by simp -implicitDefEqProofs [hn, hz0] <;> rfl) call_26 (by simp) (by simp) (by simp) (by simp -implicitDefEqProofs [hn, hz0]) (by simp; rfl) (by simp -implicitDefEqProofs [hn, hz0]) ( hso) fun r S1 hr => ?_
    obtain ⟨h, rfl, rfl, m1, m2, t1⟩ := hr
    refine ⟨_, by simp -implicitDefEqProofs [hn, hz0] <;> rfl, ?_⟩
    refine WpO.nil ?_
    refine WpC.seq ?_
    have hcp := compact_ok h n hl t1
    refine WpC.region ?_
    refine WpO.run tabOk 1 (by simp -implicitDefEqProofs [hn, hz0] <;> first | exact ⟨rfl, rfl⟩ | rfl) ?_
    refine WpO.callP [0] (by simp) rfl (by simp -implicitDefEqProofs [hn, hz0] <;> rfl) (by simp -implicitDefEqProofs [hn, hz0] <;> rfl) call_27 (by simp) (by simp) (by simp) (by simp -implicitDefEqProofs [hn, hz0]) (by simp; rfl) (by simp -implicitDefEqProofs [hn, hz0]) ( hcp) fun r S1 hr => ?_
    obtain ⟨h2, m, hm, rfl, rfl, hk2⟩ := hr
    refine ⟨_, by simp -implicitDefEqProofs [hn, hz0] <;> rfl, ?_⟩
    refine WpO.run tabOk 1 (by simp -implicitDefEqProofs [hn, hz0] <;> first | exact ⟨rfl, rfl⟩ | rfl) ?_
    refine WpO.nil ?_
    refine WpC.ret ?_
    refine ⟨.inr rfl, _, by simp -implicitDefEqProofs <;> rfl, ?_, by simp⟩
    exact ⟨h2, m, hm, rfl, rfl, by rw [hpf]; exact hpf ▸ prs_of hn (hpf.symm ▸ m1) (hpf.symm ▸ m2) hk2⟩

/-- What is left to claim, of the first k. -/
def cutO (o : Ord) (p : Int) : Ord := ⟨o.cred, o.pri, o.claim, o.bal - p⟩
def ordAt (l : List Ord) (i : Nat) : Ord := (l[i]?).getD ⟨0, 0, 0, 0⟩
def intAt (l : List Int) (i : Nat) : Int := (l[i]?).getD 0
def payL (l : List Ord) (ps : List Int) (k : Nat) : List Ord := (List.range l.length).map fun i => if i < k then cutO (ordAt l i) (intAt ps i) else ordAt l i
def payB (l : List Ord) (ps : List Int) (k : Nat) : Bool := (List.range k).all fun i => decide (0 ≤ intAt ps i ∧ intAt ps i ≤ (ordAt l i).bal)
def paidB (l : List Ord) (ps : List Int) : Bool := decide (l.length = ps.length) && payB l ps l.length
theorem ordAt_at {l : List Ord} {i : Nat} (h : i < l.length) : ordAt l i = l[i] := by unfold ordAt; rw [List.getElem?_eq_getElem h]; rfl
theorem intAt_at {l : List Int} {i : Nat} (h : i < l.length) : intAt l i = l[i] := by unfold intAt; rw [List.getElem?_eq_getElem h]; rfl
@[simp] theorem payL_len (l : List Ord) (ps : List Int) (k : Nat) : (payL l ps k).length = l.length := by simp [payL]
theorem payL_zero (l : List Ord) (ps : List Int) : payL l ps 0 = l := by
  apply List.ext_getElem
  · simp
  · intro i h1 h2
    simp [payL, ordAt_at h2]
theorem payL_at (l : List Ord) (ps : List Int) (k : Nat) {i : Nat} (h : i < (payL l ps k).length) : (payL l ps k)[i] = if i < k then cutO (ordAt l i) (intAt ps i) else ordAt l i := by simp [payL]
theorem payL_set (l : List Ord) (ps : List Int) {k : Nat} (h : k < l.length) : (payL l ps k).set k (cutO (ordAt l k) (intAt ps k)) = payL l ps (k + 1) := by
  apply List.ext_getElem
  · simp
  · intro i h1 h2
    rw [List.getElem_set, payL_at, payL_at]
    by_cases e : k = i
    · subst e; rw [if_pos rfl, if_pos (by omega)]
    · rw [if_neg e]
      by_cases e2 : i < k
      · rw [if_pos e2, if_pos (by omega)]
      · rw [if_neg e2, if_neg (by omega)]
theorem payB_step (l : List Ord) (ps : List Int) (k : Nat) : payB l ps (k + 1) = (payB l ps k && decide (0 ≤ intAt ps k ∧ intAt ps k ≤ (ordAt l k).bal)) := by
  unfold payB
  rw [List.range_succ, List.all_append]; simp
theorem payB_le {l : List Ord} {ps : List Int} {k n : Nat} (h : payB l ps n = true) (hk : k ≤ n) : payB l ps k = true := by
  unfold payB at *
  rw [List.all_eq_true] at *
  intro i hi
  exact h i (List.mem_range.2 (Nat.lt_of_lt_of_le (List.mem_range.1 hi) hk))
set_option maxHeartbeats 4000000 in
theorem paid_ok (l : List Ord) (ps : List Int) (hl : l.length ≤ 1000000) (hp : ps.length ≤ 1000000) (hb : ∀ o ∈ l, in64 o.bal) : Gives Try.prog 15 [.d (encOs l), .d (.list 1 (ps.map dI))] (.tup [.d (encOs (if paidB l ps = true then payL l ps l.length else [])), .d (.bool (paidB l ps))]) := by
  have hcl := cloneO_ok (l.map Ord.enc) (by simp; omega)
  have hz := payL_zero l ps
  refine Gives.enter tabOk Try.func15 rfl (by show 2 ≤ 45; decide) ?_
  simp only [Try.f15]
  refine WpC.seq (WpC.ops tabOk (r := []) (by simp -implicitDefEqProofs [hz] <;> rfl) rfl ?_)
  refine WpC.seq ?_
  refine WpC.seq (WpC.ops tabOk (r := []) (by simp -implicitDefEqProofs [hz] <;> rfl) rfl ?_)
  refine WpC.condD (¬ (l.length : Int) = ps.length) (by simp -implicitDefEqProofs [hz]) (fun d13 => ?_) (fun d13 => ?_)
  · refine WpC.seq (WpC.ops tabOk (r := []) (by simp -implicitDefEqProofs [hz, d13] <;> rfl) rfl ?_)
    refine WpC.ret ?_
    try simp only [blockQ, seqQ]
    refine retD_i (by simp -implicitDefEqProofs [hz, d13] <;> rfl) (by simp -implicitDefEqProofs [hz, d13] <;> rfl) ?_
    have e : paidB l ps = false := by unfold paidB; rw [decide_eq_false (by omega)]; rfl
    simp [e]
  · have hle : l.length = ps.length := by omega
    obtain ⟨n, hn⟩ : ∃ n, l.length = n := ⟨_, rfl⟩
    have hn2 : ps.length = n := by omega
    refine WpC.skip ?_
    refine WpC.seq ?_
    refine WpC.region ?_
    refine WpO.run tabOk 1 (by simp -implicitDefEqProofs [hz, d13, hn, hn2] <;> first | exact ⟨rfl, rfl⟩ | rfl) ?_
    refine WpO.callP [] (by simp) rfl (by simp -implicitDefEqProofs [hz, d13, hn, hn2] <;> rfl) (by simp -implicitDefEqProofs [hz, d13, hn, hn2] <;> rfl) call_22 (by simp) (by simp) (by simp) (by simp -implicitDefEqProofs [hz, d13, hn, hn2]) (by simp; rfl) (by simp -implicitDefEqProofs [hz, d13, hn, hn2]) ( hcl) fun r S1 hr => ?_
    obtain ⟨rfl, rfl⟩ := hr
    refine ⟨_, by simp -implicitDefEqProofs [hz, d13, hn, hn2] <;> rfl, ?_⟩
    refine WpO.run tabOk 1 (by simp -implicitDefEqProofs [hz, d13, hn, hn2] <;> first | exact ⟨rfl, rfl⟩ | rfl) ?_
    refine WpO.nil ?_
    refine WpC.seq ?_
    refine WpC.seq (WpC.ops tabOk (r := []) (by simp -implicitDefEqProofs [hz, d13, hn, hn2] <;> rfl) rfl ?_)
    refine WpC.block ?_
    refine WpC.loopK [0, 6, 16, 17] [18] (n) (() : Unit) (fun k _ => [(18, .d (.int .i64 k))]) (fun k _ => [.arr 35 4 ((payL l ps k).map Ord.enc)]) (fun k _ => payB l ps k = true) (by simp -implicitDefEqProofs [hz, d13, hn, hn2] <;> rfl) (Gh.cut' [18, 0, 6, 16, 17] 1 (by simp -implicitDefEqProofs [hz, d13, hn, hn2]) (by simp -implicitDefEqProofs [hz, d13, hn, hn2]) rfl (by simp) (by simp) (by simp)) (rfl) ?_
    rintro k ⟨⟩ hk hi
    simp only [List.cons_append, List.nil_append]
    refine WpC.seq (WpC.ops tabOk (r := []) (by simp -implicitDefEqProofs [hz, d13, hn, hn2] <;> rfl) rfl ?_)
    refine WpC.seq (WpC.condD (k < n) (by simp -implicitDefEqProofs [hz, d13, hn, hn2] <;> omega) (fun hlt => ?_) (fun hge => ?_))
    · refine WpC.skip ?_
      have hkl : k < l.length := by omega
      have hkp : k < ps.length := by omega
      obtain ⟨x, hx⟩ : ∃ x, l[k] = x := ⟨_, rfl⟩
      obtain ⟨p, hpk⟩ : ∃ p, ps[k] = p := ⟨_, rfl⟩
      have hxb := hb x (hx ▸ List.getElem_mem hkl)
      unfold in64 at hxb
      have hst := payB_step l ps k
      have hse := payL_set l ps hkl
      rw [hi, ordAt_at hkl, intAt_at hkp, hx, hpk] at hst
      rw [ordAt_at hkl, intAt_at hkp, hx, hpk] at hse
      obtain ⟨Y, hY⟩ : ∃ Y, payL l ps k = Y := ⟨_, rfl⟩
      have hYl : Y.length = n := by rw [← hY]; simp; omega
      have hYk : ∀ h : k < Y.length, Y[k] = x := fun h => by subst hY; rw [payL_at, if_neg (by omega), ordAt_at hkl, hx]
      rw [hY] at hse
      have hkw : IntKind.i64.wrap ((k : Int) + 1) = k + 1 := wrapI (by omega) (by omega)
      refine WpC.seq ?_
      refine WpC.block ?_
      refine WpC.seq (WpC.ops tabOk (r := []) (by simp -implicitDefEqProofs [hz, d13, hn, hn2, hlt, hkl, hkp, hx, hpk, hY, hYl, hYk, hkw] <;> rfl) rfl ?_)
      refine WpC.seq ?_
      refine WpC.seq ?_
      refine WpC.val 33 (.d (.bool (decide (p < 0 ∨ x.bal < p)))) ?_ ?_
      · refine WpC.region ?_
        refine WpO.run tabOk 3 (by simp -implicitDefEqProofs [hz, d13, hn, hn2, hlt, hkl, hkp, hx, hpk, hY, hYl, hYk, hkw] <;> first | exact ⟨rfl, rfl⟩ | rfl) ?_
        refine WpO.splitB 25 (by simp -implicitDefEqProofs [hz, d13, hn, hn2, hlt, hkl, hkp, hx, hpk, hY, hYl, hYk, hkw] <;> rfl) (by rfl) (fun g25 => ?_) (fun g25 => ?_)
        · have g25' := g25; first | simp only [dT, dF] at g25' | try simp at g25'
          refine WpO.run tabOk 8 (by simp -implicitDefEqProofs [hz, d13, hn, hn2, hlt, hkl, hkp, hx, hpk, hY, hYl, hYk, hkw, g25] <;> first | exact ⟨rfl, rfl⟩ | rfl) ?_
          refine WpO.nil ?_
          refine ⟨rfl, Gh.only 33 12 ?_ (by first | rfl | simp -implicitDefEqProofs [hz, d13, hn, hn2, hlt, hkl, hkp, hx, hpk, hY, hYl, hYk, hkw, g25]) (by rfl)⟩
          simp -implicitDefEqProofs [hz, d13, hn, hn2, hlt, hkl, hkp, hx, hpk, hY, hYl, hYk, hkw, g25, g25']
        · have g25' := g25; first | simp only [dT, dF] at g25' | try simp at g25'
          refine WpO.run tabOk 8 (by simp -implicitDefEqProofs [hz, d13, hn, hn2, hlt, hkl, hkp, hx, hpk, hY, hYl, hYk, hkw, g25] <;> first | exact ⟨rfl, rfl⟩ | rfl) ?_
          refine WpO.nil ?_
          refine ⟨rfl, Gh.only 33 12 ?_ (by first | rfl | simp -implicitDefEqProofs [hz, d13, hn, hn2, hlt, hkl, hkp, hx, hpk, hY, hYl, hYk, hkw, g25]) (by rfl)⟩
          simp -implicitDefEqProofs [hz, d13, hn, hn2, hlt, hkl, hkp, hx, hpk, hY, hYl, hYk, hkw, g25, g25']
      refine WpC.condD (p < 0 ∨ x.bal < p) (by simp -implicitDefEqProofs [hz, d13, hn, hn2, hlt, hkl, hkp, hx, hpk, hY, hYl, hYk, hkw]) (fun d33 => ?_) (fun d33 => ?_)
      · have hno : paidB l ps = false := by
          cases hq : paidB l ps with
          | false => rfl
          | true =>
            unfold paidB at hq
            rw [Bool.and_eq_true] at hq
            have h3 := payB_le hq.2 (show k + 1 ≤ l.length from hkl)
            rw [hst, decide_eq_false (show ¬ (0 ≤ p ∧ p ≤ x.bal) by omega)] at h3
            cases h3
        refine WpC.seq (WpC.ops tabOk (r := []) (by simp -implicitDefEqProofs [hz, d13, hn, hn2, hlt, hkl, hkp, hx, hpk, hY, hYl, hYk, hkw, d33] <;> rfl) rfl ?_)
        refine WpC.ret ?_
        try simp only [blockQ, seqQ]
        refine retD_i (by simp -implicitDefEqProofs [hz, d13, hn, hn2, hlt, hkl, hkp, hx, hpk, hY, hYl, hYk, hkw, d33] <;> rfl) (by simp -implicitDefEqProofs [hz, d13, hn, hn2, hlt, hkl, hkp, hx, hpk, hY, hYl, hYk, hkw, d33] <;> rfl) ?_
        simp [hno]
      · have hpw : IntKind.i64.wrap (x.bal - p) = x.bal - p := wrapI (by omega) (by omega)
        refine WpC.skip ?_
        refine WpC.ops tabOk (r := []) (by simp -implicitDefEqProofs [hz, d13, hn, hn2, hlt, hkl, hkp, hx, hpk, hY, hYl, hYk, hkw, d33, hpw] <;> rfl) rfl ?_
        refine WpC.ops tabOk (r := []) (by simp -implicitDefEqProofs [hz, d13, hn, hn2, hlt, hkl, hkp, hx, hpk, hY, hYl, hYk, hkw, d33, hpw] <;> rfl) rfl ?_
        exact ⟨hlt, (), by rw [hst, decide_eq_true (show 0 ≤ p ∧ p ≤ x.bal by omega)]; rfl, Gh.cut' [18, 0, 6, 16, 17] 1 (by simp -implicitDefEqProofs [hz, d13, hn, hn2, hlt, hkl, hkp, hx, hpk, hY, hYl, hYk, hkw, d33, hpw, ← hse, cutO]) (by simp -implicitDefEqProofs [hz, d13, hn, hn2, hlt, hkl, hkp, hx, hpk, hY, hYl, hYk, hkw, d33, hpw, ← hse, cutO]) rfl (by simp) (by simp) (by simp)⟩
    · refine WpC.exit ?_
      have hkn : k = n := by omega
      subst hkn
      refine WpC.seq (WpC.ops tabOk (r := []) (by simp -implicitDefEqProofs [hz, d13, hn, hn2] <;> rfl) rfl ?_)
      refine WpC.ret ?_
      try simp only [blockQ, seqQ]
      refine retD_i (by simp -implicitDefEqProofs [hz, d13, hn, hn2] <;> rfl) (by simp -implicitDefEqProofs [hz, d13, hn, hn2] <;> rfl) ?_
      have e : paidB l ps = true := by unfold paidB; rw [decide_eq_true hle, hn, hi]; rfl
      simp [e, hn]
end Go.Proofs.Ytaobnhenjldjeaa.Pay
