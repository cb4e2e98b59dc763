/- What the document says of acts: its functions of layer 13. No statement of the seed is proved here. -/
import Derived.Test.YtndofikacmhejaaMaD
namespace Go.Proofs.Ytndofikacmhejaa.Pay
open Go Go.RowKit
set_option linter.unusedVariables false
set_option linter.unusedSimpArgs false

structure Act where
  kind : Int
  id : Int
  frm : Int
  ctr : Int
  base : Int
  bonus : Int
  hours : Int
  days : Int
  lead : Bool
  cred : Int
  pri : Int
  claim : Int
  bal : Int
def Act.cs (a : Act) : List D := [dI a.kind, dI a.id, dI a.frm, dI a.ctr, dI a.base, dI a.bonus, dI a.hours, dI a.days, .bool a.lead, dI a.cred, dI a.pri, dI a.claim, dI a.bal]
def Act.enc (a : Act) : D := .agg a.cs
def encAs (l : List Act) : D := .list 13 (l.map Act.enc)
attribute [simp] Act.cs Act.enc encAs
def Act.rcd (a : Act) : Rec := ⟨a.frm, a.ctr, a.base, a.bonus, a.hours, a.days, a.lead⟩
def Act.ord (a : Act) : Ord := ⟨a.cred, a.pri, a.claim, a.bal⟩

def soundB (a : Act) : Bool := [a.base, a.bonus, a.hours, a.days].all bigB && decide (1 ≤ a.id ∧ a.id ≤ 2147483647 ∧ 22800 ≤ a.frm ∧ a.frm ≤ 35999 ∧ 0 ≤ a.ctr ∧ a.ctr ≤ 999)
theorem sound_ok (a : Act) : Gives Try.prog 60 [.d a.enc] (.d (.bool (soundB a))) := by
  obtain ⟨l, hl⟩ : ∃ l : List Int, [a.base, a.bonus, a.hours, a.days] = l := ⟨_, rfl⟩
  have hlen : l.length = 4 := by subst hl; rfl
  have hmap : [dI a.base, dI a.bonus, dI a.hours, dI a.days] = l.map dI := by subst hl; rfl
  unfold soundB
  rw [hl]
  refine Gives.enter tabOk Try.func60 rfl (by show 1 ≤ 58; decide) ?_
  simp only [Try.f60]
  refine WpC.seq (WpC.ops tabOk (r := []) (by simp -implicitDefEqProofs <;> rfl) rfl ?_)
  refine WpC.seq ?_
  refine WpC.seq (WpC.ops tabOk (r := []) (by simp -implicitDefEqProofs <;> rfl) rfl ?_)
  refine WpC.block ?_
  refine WpC.loopK [1, 17, 18] [19] (4) (() : Unit) (fun k _ => [(19, .d (.int .i64 k))]) (fun k _ => [.cells 86 (a.cs.map .d), .arr 3 1 (l.map dI)]) (fun k _ => (l.take k).all bigB = true) (by simp -implicitDefEqProofs <;> rfl) ((Gh.cut' [19, 1, 17, 18] 2 (by simp) (by simp [← hmap]) rfl (by simp) (by simp) (by simp))) (by simp) ?_
  rintro k ⟨⟩ hk hi
  simp only [List.cons_append, List.nil_append]
  refine WpC.seq (WpC.ops tabOk (r := []) (by simp -implicitDefEqProofs <;> rfl) rfl ?_)
  refine WpC.seq (WpC.condD (k < 4) (by simp -implicitDefEqProofs <;> omega) (fun hlt => ?_) (fun hge => ?_))
  · refine WpC.skip ?_
    have hkl : k < l.length := by omega
    have hst := take_all bigB hkl
    obtain ⟨n, hn⟩ : ∃ n, l[k] = n := ⟨_, rfl⟩
    have hw : IntKind.i64.wrap ((k : Int) + 1) = k + 1 := wrapI (by omega) (by omega)
    rw [hi, hn, Bool.true_and] at hst
    refine WpC.seq ?_
    refine WpC.block ?_
    refine WpC.seq (WpC.ops tabOk (r := []) (by simp -implicitDefEqProofs [hlt, hkl, hn, hlen] <;> rfl) rfl ?_)
    refine WpC.seq ?_
    refine WpC.val 28 (.d (.bool (decide (n < 0 ∨ 1099511627776 < n)))) ?_ ?_
    · refine WpC.region ?_
      refine WpO.run tabOk 3 (by simp -implicitDefEqProofs [hlt, hkl, hn, hlen] <;> first | exact ⟨rfl, rfl⟩ | rfl) ?_
      refine WpO.splitB 25 (by simp -implicitDefEqProofs [hlt, hkl, hn, hlen] <;> rfl) (by rfl) (fun g25 => ?_) (fun g25 => ?_)
      · have g25' := g25; first | simp only [dT, dF] at g25' | try simp at g25'
        refine WpO.run tabOk 3 (by simp -implicitDefEqProofs [hlt, hkl, hn, hlen, g25] <;> first | exact ⟨rfl, rfl⟩ | rfl) ?_
        refine WpO.nil ?_
        refine ⟨rfl, Gh.only 28 7 ?_ (by first | rfl | simp -implicitDefEqProofs [hlt, hkl, hn, hlen, g25]) (by rfl)⟩
        simp -implicitDefEqProofs [hlt, hkl, hn, hlen, g25, g25']
      · have g25' := g25; first | simp only [dT, dF] at g25' | try simp at g25'
        refine WpO.run tabOk 3 (by simp -implicitDefEqProofs [hlt, hkl, hn, hlen, g25] <;> first | exact ⟨rfl, rfl⟩ | rfl) ?_
        refine WpO.nil ?_
        refine ⟨rfl, Gh.only 28 7 ?_ (by first | rfl | simp -implicitDefEqProofs [hlt, hkl, hn, hlen, g25]) (by rfl)⟩
        simp -implicitDefEqProofs [hlt, hkl, hn, hlen, g25, g25']
    refine WpC.condD (n < 0 ∨ 1099511627776 < n) (by simp -implicitDefEqProofs [hlt, hkl, hn, hlen]) (fun d28 => ?_) (fun d28 => ?_)
    · refine WpC.seq (WpC.ops tabOk (r := []) (by simp -implicitDefEqProofs [hlt, hkl, hn, hlen, d28] <;> rfl) rfl ?_)
      refine WpC.ret ?_
      try simp only [blockQ, seqQ]
      refine retD_i (by simp -implicitDefEqProofs [hlt, hkl, hn, hlen, d28] <;> rfl) (by simp -implicitDefEqProofs [hlt, hkl, hn, hlen, d28] <;> rfl) ?_
      have : l.all bigB = false := by
          rw [List.all_eq_false]
          exact ⟨n, hn ▸ List.getElem_mem hkl, by simp [bigB]; omega⟩
      simp [this]
    · refine WpC.skip ?_
      refine WpC.ops tabOk (r := []) (by simp -implicitDefEqProofs [hlt, hkl, hn, hlen, d28] <;> rfl) rfl ?_
      exact ⟨hlt, (), by rw [hst]; simp [bigB]; omega, (Gh.cut' [19, 1, 17, 18] 2 (by simp [hw]) (by simp) rfl (by simp) (by simp) (by simp))⟩
  · refine WpC.exit ?_
    have hkn : k = 4 := by omega
    subst hkn
    rw [List.take_of_length_le (by omega)] at hi
    refine WpC.seq ?_
    refine WpC.val 2 (.d (.bool (decide (1 ≤ a.id ∧ a.id ≤ 2147483647 ∧ 22800 ≤ a.frm ∧ a.frm ≤ 35999 ∧ 0 ≤ a.ctr ∧ a.ctr ≤ 999)))) ?_ ?_
    · refine WpC.region ?_
      refine WpO.run tabOk 4 (by simp -implicitDefEqProofs <;> first | exact ⟨rfl, rfl⟩ | rfl) ?_
      refine WpO.splitB 33 (by simp -implicitDefEqProofs <;> rfl) (by rfl) (fun g33 => ?_) (fun g33 => ?_)
      · have g33' := g33; first | simp only [dT, dF] at g33' | try simp at g33'
        refine WpO.run tabOk 5 (by simp -implicitDefEqProofs [g33] <;> first | exact ⟨rfl, rfl⟩ | rfl) ?_
        refine WpO.splitB 38 (by simp -implicitDefEqProofs [g33] <;> rfl) (by rfl) (fun g38 => ?_) (fun g38 => ?_)
        · have g38' := g38; first | simp only [dT, dF] at g38' | try simp at g38'
          refine WpO.run tabOk 5 (by simp -implicitDefEqProofs [g33, g38] <;> first | exact ⟨rfl, rfl⟩ | rfl) ?_
          refine WpO.splitB 43 (by simp -implicitDefEqProofs [g33, g38] <;> rfl) (by rfl) (fun g43 => ?_) (fun g43 => ?_)
          · have g43' := g43; first | simp only [dT, dF] at g43' | try simp at g43'
            refine WpO.run tabOk 5 (by simp -implicitDefEqProofs [g33, g38, g43] <;> first | exact ⟨rfl, rfl⟩ | rfl) ?_
            refine WpO.splitB 48 (by simp -implicitDefEqProofs [g33, g38, g43] <;> rfl) (by rfl) (fun g48 => ?_) (fun g48 => ?_)
            · have g48' := g48; first | simp only [dT, dF] at g48' | try simp at g48'
              refine WpO.run tabOk 5 (by simp -implicitDefEqProofs [g33, g38, g43, g48] <;> first | exact ⟨rfl, rfl⟩ | rfl) ?_
              refine WpO.splitB 53 (by simp -implicitDefEqProofs [g33, g38, g43, g48] <;> rfl) (by rfl) (fun g53 => ?_) (fun g53 => ?_)
              · have g53' := g53; first | simp only [dT, dF] at g53' | try simp at g53'
                refine WpO.run tabOk 5 (by simp -implicitDefEqProofs [g33, g38, g43, g48, g53] <;> first | exact ⟨rfl, rfl⟩ | rfl) ?_
                refine WpO.nil ?_
                refine ⟨rfl, Gh.only 2 34 ?_ (by first | rfl | simp -implicitDefEqProofs [g33, g38, g43, g48, g53]) (by rfl)⟩
                simp_all <;> omega
              · have g53' := g53; first | simp only [dT, dF] at g53' | try simp at g53'
                refine WpO.run tabOk 5 (by simp -implicitDefEqProofs [g33, g38, g43, g48, g53] <;> first | exact ⟨rfl, rfl⟩ | rfl) ?_
                refine WpO.nil ?_
                refine ⟨rfl, Gh.only 2 34 ?_ (by first | rfl | simp -implicitDefEqProofs [g33, g38, g43, g48, g53]) (by rfl)⟩
                simp_all <;> omega
            · have g48' := g48; first | simp only [dT, dF] at g48' | try simp at g48'
              refine WpO.run tabOk 10 (by simp -implicitDefEqProofs [g33, g38, g43, g48] <;> first | exact ⟨rfl, rfl⟩ | rfl) ?_
              refine WpO.nil ?_
              refine ⟨rfl, Gh.only 2 33 ?_ (by first | rfl | simp -implicitDefEqProofs [g33, g38, g43, g48]) (by rfl)⟩
              simp_all <;> omega
          · have g43' := g43; first | simp only [dT, dF] at g43' | try simp at g43'
            refine WpO.run tabOk 15 (by simp -implicitDefEqProofs [g33, g38, g43] <;> first | exact ⟨rfl, rfl⟩ | rfl) ?_
            refine WpO.nil ?_
            refine ⟨rfl, Gh.only 2 32 ?_ (by first | rfl | simp -implicitDefEqProofs [g33, g38, g43]) (by rfl)⟩
            simp_all <;> omega
        · have g38' := g38; first | simp only [dT, dF] at g38' | try simp at g38'
          refine WpO.run tabOk 20 (by simp -implicitDefEqProofs [g33, g38] <;> first | exact ⟨rfl, rfl⟩ | rfl) ?_
          refine WpO.nil ?_
          refine ⟨rfl, Gh.only 2 31 ?_ (by first | rfl | simp -implicitDefEqProofs [g33, g38]) (by rfl)⟩
          simp_all <;> omega
      · have g33' := g33; first | simp only [dT, dF] at g33' | try simp at g33'
        refine WpO.run tabOk 25 (by simp -implicitDefEqProofs [g33] <;> first | exact ⟨rfl, rfl⟩ | rfl) ?_
        refine WpO.nil ?_
        refine ⟨rfl, Gh.only 2 30 ?_ (by first | rfl | simp -implicitDefEqProofs [g33]) (by rfl)⟩
        simp_all <;> omega
    refine WpC.ret ?_
    try simp only [blockQ, seqQ]
    refine retD_i (by simp -implicitDefEqProofs <;> rfl) (by simp -implicitDefEqProofs <;> rfl) ?_
    simp [hi]

def crB (n : Int) : Bool := decide (1 ≤ n ∧ n ≤ 999)
def orderB (o : Ord) : Bool := [o.cred, o.pri].all crB && decide (1 ≤ o.claim ∧ o.claim ≤ 1099511627776 ∧ 1 ≤ o.bal ∧ o.bal ≤ 1099511627776)
theorem order_ok (o : Ord) : Gives Try.prog 62 [.d o.enc] (.d (.bool (orderB o))) := by
  obtain ⟨l, hl⟩ : ∃ l : List Int, [o.cred, o.pri] = l := ⟨_, rfl⟩
  have hlen : l.length = 2 := by subst hl; rfl
  have hmap : [dI o.cred, dI o.pri] = l.map dI := by subst hl; rfl
  unfold orderB
  rw [hl]
  refine Gives.enter tabOk Try.func62 rfl (by show 1 ≤ 40; decide) ?_
  simp only [Try.f62]
  refine WpC.seq (WpC.ops tabOk (r := []) (by simp -implicitDefEqProofs <;> rfl) rfl ?_)
  refine WpC.seq ?_
  refine WpC.seq (WpC.ops tabOk (r := []) (by simp -implicitDefEqProofs <;> rfl) rfl ?_)
  refine WpC.block ?_
  refine WpC.loopK [1, 9, 10] [11] (2) (() : Unit) (fun k _ => [(11, .d (.int .i64 k))]) (fun k _ => [.cells 78 (o.cs.map .d), .arr 3 1 (l.map dI)]) (fun k _ => (l.take k).all crB = true) (by simp -implicitDefEqProofs <;> rfl) ((Gh.cut' [11, 1, 9, 10] 2 (by simp) (by simp [← hmap]) rfl (by simp) (by simp) (by simp))) (by simp) ?_
  rintro k ⟨⟩ hk hi
  simp only [List.cons_append, List.nil_append]
  refine WpC.seq (WpC.ops tabOk (r := []) (by simp -implicitDefEqProofs <;> rfl) rfl ?_)
  refine WpC.seq (WpC.condD (k < 2) (by simp -implicitDefEqProofs <;> omega) (fun hlt => ?_) (fun hge => ?_))
  · refine WpC.skip ?_
    have hkl : k < l.length := by omega
    have hst := take_all crB hkl
    obtain ⟨n, hn⟩ : ∃ n, l[k] = n := ⟨_, rfl⟩
    have hw : IntKind.i64.wrap ((k : Int) + 1) = k + 1 := wrapI (by omega) (by omega)
    rw [hi, hn, Bool.true_and] at hst
    refine WpC.seq ?_
    refine WpC.block ?_
    refine WpC.seq (WpC.ops tabOk (r := []) (by simp -implicitDefEqProofs [hlt, hkl, hn, hlen] <;> rfl) rfl ?_)
    refine WpC.seq ?_
    refine WpC.val 20 (.d (.bool (decide (n < 1 ∨ 999 < n)))) ?_ ?_
    · refine WpC.region ?_
      refine WpO.run tabOk 3 (by simp -implicitDefEqProofs [hlt, hkl, hn, hlen] <;> first | exact ⟨rfl, rfl⟩ | rfl) ?_
      refine WpO.splitB 17 (by simp -implicitDefEqProofs [hlt, hkl, hn, hlen] <;> rfl) (by rfl) (fun g17 => ?_) (fun g17 => ?_)
      · have g17' := g17; first | simp only [dT, dF] at g17' | try simp at g17'
        refine WpO.run tabOk 3 (by simp -implicitDefEqProofs [hlt, hkl, hn, hlen, g17] <;> first | exact ⟨rfl, rfl⟩ | rfl) ?_
        refine WpO.nil ?_
        refine ⟨rfl, Gh.only 20 7 ?_ (by first | rfl | simp -implicitDefEqProofs [hlt, hkl, hn, hlen, g17]) (by rfl)⟩
        simp -implicitDefEqProofs [hlt, hkl, hn, hlen, g17, g17']
      · have g17' := g17; first | simp only [dT, dF] at g17' | try simp at g17'
        refine WpO.run tabOk 3 (by simp -implicitDefEqProofs [hlt, hkl, hn, hlen, g17] <;> first | exact ⟨rfl, rfl⟩ | rfl) ?_
        refine WpO.nil ?_
        refine ⟨rfl, Gh.only 20 7 ?_ (by first | rfl | simp -implicitDefEqProofs [hlt, hkl, hn, hlen, g17]) (by rfl)⟩
        simp -implicitDefEqProofs [hlt, hkl, hn, hlen, g17, g17']
    refine WpC.condD (n < 1 ∨ 999 < n) (by simp -implicitDefEqProofs [hlt, hkl, hn, hlen]) (fun d20 => ?_) (fun d20 => ?_)
    · refine WpC.seq (WpC.ops tabOk (r := []) (by simp -implicitDefEqProofs [hlt, hkl, hn, hlen, d20] <;> rfl) rfl ?_)
      refine WpC.ret ?_
      try simp only [blockQ, seqQ]
      refine retD_i (by simp -implicitDefEqProofs [hlt, hkl, hn, hlen, d20] <;> rfl) (by simp -implicitDefEqProofs [hlt, hkl, hn, hlen, d20] <;> rfl) ?_
      have : l.all crB = false := by
          rw [List.all_eq_false]
          exact ⟨n, hn ▸ List.getElem_mem hkl, by simp [crB]; omega⟩
      simp [this]
    · refine WpC.skip ?_
      refine WpC.ops tabOk (r := []) (by simp -implicitDefEqProofs [hlt, hkl, hn, hlen, d20] <;> rfl) rfl ?_
      exact ⟨hlt, (), by rw [hst]; simp [crB]; omega, (Gh.cut' [11, 1, 9, 10] 2 (by simp [hw]) (by simp) rfl (by simp) (by simp) (by simp))⟩
  · refine WpC.exit ?_
    have hkn : k = 2 := by omega
    subst hkn
    rw [List.take_of_length_le (by omega)] at hi
    refine WpC.seq ?_
    refine WpC.val 2 (.d (.bool (decide (1 ≤ o.claim ∧ o.claim ≤ 1099511627776 ∧ 1 ≤ o.bal ∧ o.bal ≤ 1099511627776)))) ?_ ?_
    · refine WpC.region ?_
      refine WpO.run tabOk 4 (by simp -implicitDefEqProofs <;> first | exact ⟨rfl, rfl⟩ | rfl) ?_
      refine WpO.splitB 25 (by simp -implicitDefEqProofs <;> rfl) (by rfl) (fun g25 => ?_) (fun g25 => ?_)
      · have g25' := g25; first | simp only [dT, dF] at g25' | try simp at g25'
        refine WpO.run tabOk 5 (by simp -implicitDefEqProofs [g25] <;> first | exact ⟨rfl, rfl⟩ | rfl) ?_
        refine WpO.splitB 30 (by simp -implicitDefEqProofs [g25] <;> rfl) (by rfl) (fun g30 => ?_) (fun g30 => ?_)
        · have g30' := g30; first | simp only [dT, dF] at g30' | try simp at g30'
          refine WpO.run tabOk 5 (by simp -implicitDefEqProofs [g25, g30] <;> first | exact ⟨rfl, rfl⟩ | rfl) ?_
          refine WpO.splitB 35 (by simp -implicitDefEqProofs [g25, g30] <;> rfl) (by rfl) (fun g35 => ?_) (fun g35 => ?_)
          · have g35' := g35; first | simp only [dT, dF] at g35' | try simp at g35'
            refine WpO.run tabOk 5 (by simp -implicitDefEqProofs [g25, g30, g35] <;> first | exact ⟨rfl, rfl⟩ | rfl) ?_
            refine WpO.nil ?_
            refine ⟨rfl, Gh.only 2 22 ?_ (by first | rfl | simp -implicitDefEqProofs [g25, g30, g35]) (by rfl)⟩
            simp_all <;> omega
          · have g35' := g35; first | simp only [dT, dF] at g35' | try simp at g35'
            refine WpO.run tabOk 5 (by simp -implicitDefEqProofs [g25, g30, g35] <;> first | exact ⟨rfl, rfl⟩ | rfl) ?_
            refine WpO.nil ?_
            refine ⟨rfl, Gh.only 2 22 ?_ (by first | rfl | simp -implicitDefEqProofs [g25, g30, g35]) (by rfl)⟩
            simp_all <;> omega
        · have g30' := g30; first | simp only [dT, dF] at g30' | try simp at g30'
          refine WpO.run tabOk 10 (by simp -implicitDefEqProofs [g25, g30] <;> first | exact ⟨rfl, rfl⟩ | rfl) ?_
          refine WpO.nil ?_
          refine ⟨rfl, Gh.only 2 21 ?_ (by first | rfl | simp -implicitDefEqProofs [g25, g30]) (by rfl)⟩
          simp_all <;> omega
      · have g25' := g25; first | simp only [dT, dF] at g25' | try simp at g25'
        refine WpO.run tabOk 15 (by simp -implicitDefEqProofs [g25] <;> first | exact ⟨rfl, rfl⟩ | rfl) ?_
        refine WpO.nil ?_
        refine ⟨rfl, Gh.only 2 20 ?_ (by first | rfl | simp -implicitDefEqProofs [g25]) (by rfl)⟩
        simp_all <;> omega
    refine WpC.ret ?_
    try simp only [blockQ, seqQ]
    refine retD_i (by simp -implicitDefEqProofs <;> rfl) (by simp -implicitDefEqProofs <;> rfl) ?_
    simp [hi]

def hireB (id : Int) (a : Act) : Bool := decide (a.kind = 1) && decide (a.id = id)
def hiredI (l : List Act) (id : Int) : Int := idxP (hireB id) l
theorem hired_ok (l : List Act) (id : Int) (hl : l.length ≤ 1000000000) : Gives Try.prog 50 [.d (encAs l), .d (dI id)] (.d (dI (hiredI l id))) := by
  unfold hiredI
  obtain ⟨f, hf⟩ : ∃ f : Act → Bool, hireB id = f := ⟨_, rfl⟩
  have hff : ∀ x : Act, (decide (x.kind = 1) && decide (x.id = id)) = f x := fun x => by rw [← hf]; rfl
  rw [hf]
  refine Gives.enter tabOk Try.func50 rfl (by show 2 ≤ 28; decide) ?_
  simp only [Try.f50]
  refine WpC.seq (WpC.ops tabOk (r := []) (by simp -implicitDefEqProofs <;> rfl) rfl ?_)
  refine WpC.seq ?_
  refine WpC.seq (WpC.ops tabOk (r := []) (by simp -implicitDefEqProofs <;> rfl) rfl ?_)
  refine WpC.block ?_
  refine WpC.loopK [0, 1] [5] (l.length) (() : Unit) (fun k _ => [(5, .d (.int .i64 k))]) (fun k _ => []) (fun k _ => (l.take k).any f = false) (by simp -implicitDefEqProofs <;> rfl) (Gh.cut' [5, 0, 1] 0 (by simp -implicitDefEqProofs) (by simp -implicitDefEqProofs) rfl (by simp) (by simp) (by simp)) (by simp) ?_
  rintro k ⟨⟩ hk hi
  simp only [List.cons_append, List.nil_append]
  refine WpC.seq ?_
  refine WpC.seq (WpC.ops tabOk (r := []) (by simp -implicitDefEqProofs <;> rfl) rfl ?_)
  refine WpC.condD (k < l.length) (by simp -implicitDefEqProofs <;> omega) (fun hlt => ?_) (fun hge => ?_)
  · refine WpC.skip ?_
    have hst := any_take f hlt
    obtain ⟨x, hx⟩ : ∃ x, l[k] = x := ⟨_, rfl⟩
    have hw : IntKind.i64.wrap ((k : Int) + 1) = k + 1 := wrapI (by omega) (by omega)
    have hfi := find_take f hlt hi
    rw [hi, hx] at hst
    rw [hx] at hfi
    refine WpC.seq ?_
    refine WpC.block ?_
    refine WpC.seq ?_
    refine WpC.val 26 (.d (.bool (f x))) ?_ ?_
    · refine WpC.region ?_
      refine WpO.run tabOk 7 (by simp -implicitDefEqProofs [hlt, hx, hw] <;> first | exact ⟨rfl, rfl⟩ | rfl) ?_
      refine WpO.splitB 18 (by simp -implicitDefEqProofs [hlt, hx, hw] <;> rfl) (by rfl) (fun g18 => ?_) (fun g18 => ?_)
      · have g18' := g18; first | simp only [dT, dF] at g18' | try simp at g18'
        refine WpO.run tabOk 8 (by simp -implicitDefEqProofs [hlt, hx, hw, g18] <;> first | exact ⟨rfl, rfl⟩ | rfl) ?_
        refine WpO.nil ?_
        refine ⟨rfl, Gh.only 26 16 ?_ (by first | rfl | simp -implicitDefEqProofs [hlt, hx, hw, g18]) (by rfl)⟩
        simp -implicitDefEqProofs [hlt, hx, hw, g18, g18', ← hff]
      · have g18' := g18; first | simp only [dT, dF] at g18' | try simp at g18'
        refine WpO.run tabOk 8 (by simp -implicitDefEqProofs [hlt, hx, hw, g18] <;> first | exact ⟨rfl, rfl⟩ | rfl) ?_
        refine WpO.nil ?_
        refine ⟨rfl, Gh.only 26 16 ?_ (by first | rfl | simp -implicitDefEqProofs [hlt, hx, hw, g18]) (by rfl)⟩
        simp -implicitDefEqProofs [hlt, hx, hw, g18, g18', ← hff]
    refine WpC.condR (by simp -implicitDefEqProofs [hlt, hx, hw] <;> rfl) (by rfl) (fun c26 => ?_) (fun c26 => ?_)
    · have c26' := c26; first | simp only [dT, dF] at c26' | try simp at c26'
      refine WpC.seq (WpC.ops tabOk (r := []) (by simp -implicitDefEqProofs [hlt, hx, hw, c26] <;> rfl) rfl ?_)
      refine WpC.ret ?_
      try simp only [blockQ, seqQ]
      refine retD_i (by simp -implicitDefEqProofs [hlt, hx, hw, c26] <;> rfl) (by simp -implicitDefEqProofs [hlt, hx, hw, c26] <;> rfl) ?_
      have := hfi (by simpa using c26)
      simp [idxP, this]
    · have c26' := c26; first | simp only [dT, dF] at c26' | try simp at c26'
      refine WpC.skip ?_
      refine WpC.ops tabOk (r := []) (by simp -implicitDefEqProofs [hlt, hx, hw, c26] <;> rfl) rfl ?_
      exact ⟨hlt, (), by rw [hst]; simpa using c26, Gh.cut' [5, 0, 1] 0 (by simp -implicitDefEqProofs [hlt, hx, hw, c26, c26']) (by simp) rfl (by simp) (by simp) (by simp)⟩
  · refine WpC.exit ?_
    have hkn : k = l.length := by omega
    subst hkn
    rw [List.take_of_length_le (Nat.le_refl _)] at hi
    refine WpC.seq (WpC.ops tabOk (r := []) (by simp -implicitDefEqProofs <;> rfl) rfl ?_)
    refine WpC.ret ?_
    try simp only [blockQ, seqQ]
    refine retD_i (by simp -implicitDefEqProofs <;> rfl) (by simp -implicitDefEqProofs <;> rfl) ?_
    have : l.findIdx? f = none := by rw [List.findIdx?_eq_none_iff]; simpa using hi
    simp [idxP, this]

theorem countP_take {α : Type} (f : α → Bool) {l : List α} {k : Nat} (h : k < l.length) : (l.take (k + 1)).countP f = (l.take k).countP f + if f l[k] = true then 1 else 0 := by
  rw [List.take_add_one, List.getElem?_eq_getElem h]
  simp only [Option.toList_some, List.countP_append, List.countP_cons, List.countP_nil]
  omega
def manyB (kind id : Int) (a : Act) : Bool := decide (a.kind = kind) && (decide (id = 0) || decide (a.id = id))
def manyI (l : List Act) (kind id : Int) : Int := (l.countP (manyB kind id) : Nat)
theorem many_ok (l : List Act) (kind id : Int) (hl : l.length ≤ 1000000000) : Gives Try.prog 61 [.d (encAs l), .d (dI kind), .d (dI id)] (.d (dI (manyI l kind id))) := by
  unfold manyI
  obtain ⟨f, hf⟩ : ∃ f : Act → Bool, manyB kind id = f := ⟨_, rfl⟩
  have hff : ∀ x : Act, (decide (x.kind = kind) && (decide (id = 0) || decide (x.id = id))) = f x := fun x => by rw [← hf]; rfl
  rw [hf]
  refine Gives.enter tabOk Try.func61 rfl (by show 3 ≤ 38; decide) ?_
  simp only [Try.f61]
  refine WpC.seq (WpC.ops tabOk (r := []) (by simp -implicitDefEqProofs <;> rfl) rfl ?_)
  refine WpC.seq (WpC.ops tabOk (r := []) (by simp -implicitDefEqProofs <;> rfl) rfl ?_)
  refine WpC.seq ?_
  refine WpC.seq (WpC.ops tabOk (r := []) (by simp -implicitDefEqProofs <;> rfl) rfl ?_)
  refine WpC.block ?_
  refine WpC.loopK [0, 1, 2] [7, 8] (l.length) (() : Unit) (fun k _ => [(7, .d (dI ((l.take k).countP f : Nat))), (8, .d (.int .i64 k))]) (fun k _ => []) (fun k _ => True) (by simp -implicitDefEqProofs <;> rfl) (Gh.cut' [7, 8, 0, 1, 2] 0 (by simp -implicitDefEqProofs) (by simp -implicitDefEqProofs) rfl (by simp) (by simp) (by simp)) (by simp) ?_
  rintro k ⟨⟩ hk hi
  simp only [List.cons_append, List.nil_append]
  refine WpC.seq ?_
  refine WpC.seq (WpC.ops tabOk (r := []) (by simp -implicitDefEqProofs <;> rfl) rfl ?_)
  refine WpC.condD (k < l.length) (by simp -implicitDefEqProofs <;> omega) (fun hlt => ?_) (fun hge => ?_)
  · refine WpC.skip ?_
    have hst := countP_take f hlt
    obtain ⟨x, hx⟩ : ∃ x, l[k] = x := ⟨_, rfl⟩
    have hw : IntKind.i64.wrap ((k : Int) + 1) = k + 1 := wrapI (by omega) (by omega)
    obtain ⟨cn, hcn⟩ : ∃ cn, (l.take k).countP f = cn := ⟨_, rfl⟩
    have hcl : cn ≤ k := by rw [← hcn]; exact Nat.le_trans List.countP_le_length (by simp; omega)
    have hw2 : IntKind.i64.wrap ((cn : Int) + 1) = cn + 1 := wrapI (by omega) (by omega)
    rw [hx, hcn] at hst
    refine WpC.seq ?_
    refine WpC.block ?_
    refine WpC.seq ?_
    refine WpC.val 34 (.d (.bool (f x))) ?_ ?_
    · refine WpC.region ?_
      refine WpO.run tabOk 8 (by simp -implicitDefEqProofs [hlt, hx, hw, hw2, hcn] <;> first | exact ⟨rfl, rfl⟩ | rfl) ?_
      refine WpO.splitB 22 (by simp -implicitDefEqProofs [hlt, hx, hw, hw2, hcn] <;> rfl) (by rfl) (fun g22 => ?_) (fun g22 => ?_)
      · have g22' := g22; first | simp only [dT, dF] at g22' | try simp at g22'
        refine WpO.run tabOk 3 (by simp -implicitDefEqProofs [hlt, hx, hw, hw2, hcn, g22] <;> first | exact ⟨rfl, rfl⟩ | rfl) ?_
        refine WpO.splitB 25 (by simp -implicitDefEqProofs [hlt, hx, hw, hw2, hcn, g22] <;> rfl) (by rfl) (fun g25 => ?_) (fun g25 => ?_)
        · have g25' := g25; first | simp only [dT, dF] at g25' | try simp at g25'
          refine WpO.run tabOk 9 (by simp -implicitDefEqProofs [hlt, hx, hw, hw2, hcn, g22, g25] <;> first | exact ⟨rfl, rfl⟩ | rfl) ?_
          refine WpO.nil ?_
          refine ⟨rfl, Gh.only 34 22 ?_ (by first | rfl | simp -implicitDefEqProofs [hlt, hx, hw, hw2, hcn, g22, g25]) (by rfl)⟩
          simp -implicitDefEqProofs [hlt, hx, hw, hw2, hcn, g22, g25, g22', g25', ← hff]
        · have g25' := g25; first | simp only [dT, dF] at g25' | try simp at g25'
          refine WpO.run tabOk 9 (by simp -implicitDefEqProofs [hlt, hx, hw, hw2, hcn, g22, g25] <;> first | exact ⟨rfl, rfl⟩ | rfl) ?_
          refine WpO.nil ?_
          refine ⟨rfl, Gh.only 34 22 ?_ (by first | rfl | simp -implicitDefEqProofs [hlt, hx, hw, hw2, hcn, g22, g25]) (by rfl)⟩
          simp -implicitDefEqProofs [hlt, hx, hw, hw2, hcn, g22, g25, g22', g25', ← hff]
      · have g22' := g22; first | simp only [dT, dF] at g22' | try simp at g22'
        refine WpO.run tabOk 12 (by simp -implicitDefEqProofs [hlt, hx, hw, hw2, hcn, g22] <;> first | exact ⟨rfl, rfl⟩ | rfl) ?_
        refine WpO.nil ?_
        refine ⟨rfl, Gh.only 34 21 ?_ (by first | rfl | simp -implicitDefEqProofs [hlt, hx, hw, hw2, hcn, g22]) (by rfl)⟩
        simp -implicitDefEqProofs [hlt, hx, hw, hw2, hcn, g22, g22', ← hff]
    refine WpC.condR (by simp -implicitDefEqProofs [hlt, hx, hw, hw2, hcn] <;> rfl) (by rfl) (fun c34 => ?_) (fun c34 => ?_)
    · have c34' := c34; first | simp only [dT, dF] at c34' | try simp at c34'
      refine WpC.ops tabOk (r := []) (by simp -implicitDefEqProofs [hlt, hx, hw, hw2, hcn, c34] <;> rfl) rfl ?_
      refine WpC.ops tabOk (r := []) (by simp -implicitDefEqProofs [hlt, hx, hw, hw2, hcn, c34] <;> rfl) rfl ?_
      exact ⟨hlt, (), trivial, Gh.cut' [7, 8, 0, 1, 2] 0 (by simp -implicitDefEqProofs [hlt, hx, hw, hw2, hcn, c34, c34', hst]) (by simp) rfl (by simp) (by simp) (by simp)⟩
    · have c34' := c34; first | simp only [dT, dF] at c34' | try simp at c34'
      refine WpC.skip ?_
      refine WpC.ops tabOk (r := []) (by simp -implicitDefEqProofs [hlt, hx, hw, hw2, hcn, c34] <;> rfl) rfl ?_
      exact ⟨hlt, (), trivial, Gh.cut' [7, 8, 0, 1, 2] 0 (by simp -implicitDefEqProofs [hlt, hx, hw, hw2, hcn, c34, c34', hst]) (by simp) rfl (by simp) (by simp) (by simp)⟩
  · refine WpC.exit ?_
    have hkn : k = l.length := by omega
    subst hkn
    refine WpC.seq (WpC.ops tabOk (r := []) (by simp -implicitDefEqProofs <;> rfl) rfl ?_)
    refine WpC.ret ?_
    try simp only [blockQ, seqQ]
    refine retD_i (by simp -implicitDefEqProofs <;> rfl) (by simp -implicitDefEqProofs <;> rfl) ?_
    simp -implicitDefEqProofs

def goneStep (id : Int) (n : Int) (a : Act) : Int := if a.kind = 3 ∧ a.id = id then a.frm else n
def goneI (l : List Act) (id : Int) : Int := l.foldl (goneStep id) 0
theorem gone_ok (l : List Act) (id : Int) (hl : l.length ≤ 1000000000) : Gives Try.prog 51 [.d (encAs l), .d (dI id)] (.d (dI (goneI l id))) := by
  unfold goneI
  refine Gives.enter tabOk Try.func51 rfl (by show 2 ≤ 34; decide) ?_
  simp only [Try.f51]
  refine WpC.seq (WpC.ops tabOk (r := []) (by simp -implicitDefEqProofs <;> rfl) rfl ?_)
  refine WpC.seq (WpC.ops tabOk (r := []) (by simp -implicitDefEqProofs <;> rfl) rfl ?_)
  refine WpC.seq ?_
  refine WpC.seq (WpC.ops tabOk (r := []) (by simp -implicitDefEqProofs <;> rfl) rfl ?_)
  refine WpC.block ?_
  refine WpC.loopK [0, 1] [5, 6] (l.length) (0 : Int) (fun k a => [(5, .d (dI a)), (6, .d (.int .i64 k))]) (fun k a => []) (fun k a => (l.take k).foldl (goneStep id) 0 = a) (by simp -implicitDefEqProofs <;> rfl) (Gh.cut' [5, 6, 0, 1] 0 (by simp -implicitDefEqProofs) (by simp -implicitDefEqProofs) rfl (by simp) (by simp) (by simp)) (by simp) ?_
  rintro k a hk hi
  simp only [List.cons_append, List.nil_append]
  refine WpC.seq ?_
  refine WpC.seq (WpC.ops tabOk (r := []) (by simp -implicitDefEqProofs <;> rfl) rfl ?_)
  refine WpC.condD (k < l.length) (by simp -implicitDefEqProofs <;> omega) (fun hlt => ?_) (fun hge => ?_)
  · refine WpC.skip ?_
    have hst := foldl_take (goneStep id) 0 hlt
    obtain ⟨x, hx⟩ : ∃ x, l[k] = x := ⟨_, rfl⟩
    have hw : IntKind.i64.wrap ((k : Int) + 1) = k + 1 := wrapI (by omega) (by omega)
    rw [hx, hi] at hst
    refine WpC.seq ?_
    refine WpC.block ?_
    refine WpC.seq ?_
    refine WpC.val 27 (.d (.bool (decide (x.kind = 3 ∧ x.id = id)))) ?_ ?_
    · refine WpC.region ?_
      refine WpO.run tabOk 7 (by simp -implicitDefEqProofs [hlt, hx, hw] <;> first | exact ⟨rfl, rfl⟩ | rfl) ?_
      refine WpO.splitB 19 (by simp -implicitDefEqProofs [hlt, hx, hw] <;> rfl) (by rfl) (fun g19 => ?_) (fun g19 => ?_)
      · have g19' := g19; first | simp only [dT, dF] at g19' | try simp at g19'
        refine WpO.run tabOk 8 (by simp -implicitDefEqProofs [hlt, hx, hw, g19] <;> first | exact ⟨rfl, rfl⟩ | rfl) ?_
        refine WpO.nil ?_
        refine ⟨rfl, Gh.only 27 16 ?_ (by first | rfl | simp -implicitDefEqProofs [hlt, hx, hw, g19]) (by rfl)⟩
        simp -implicitDefEqProofs [hlt, hx, hw, g19, g19']
      · have g19' := g19; first | simp only [dT, dF] at g19' | try simp at g19'
        refine WpO.run tabOk 8 (by simp -implicitDefEqProofs [hlt, hx, hw, g19] <;> first | exact ⟨rfl, rfl⟩ | rfl) ?_
        refine WpO.nil ?_
        refine ⟨rfl, Gh.only 27 16 ?_ (by first | rfl | simp -implicitDefEqProofs [hlt, hx, hw, g19]) (by rfl)⟩
        simp -implicitDefEqProofs [hlt, hx, hw, g19, g19']
    refine WpC.condD (x.kind = 3 ∧ x.id = id) (by simp -implicitDefEqProofs [hlt, hx, hw]) (fun d27 => ?_) (fun d27 => ?_)
    · refine WpC.ops tabOk (r := []) (by simp -implicitDefEqProofs [hlt, hx, hw, d27] <;> rfl) rfl ?_
      refine WpC.ops tabOk (r := []) (by simp -implicitDefEqProofs [hlt, hx, hw, d27] <;> rfl) rfl ?_
      exact ⟨hlt, _, hst, Gh.cut' [5, 6, 0, 1] 0 (by simp -implicitDefEqProofs [hlt, hx, hw, d27, goneStep]) (by simp) rfl (by simp) (by simp) (by simp)⟩
    · refine WpC.skip ?_
      refine WpC.ops tabOk (r := []) (by simp -implicitDefEqProofs [hlt, hx, hw, d27] <;> rfl) rfl ?_
      exact ⟨hlt, _, hst, Gh.cut' [5, 6, 0, 1] 0 (by simp -implicitDefEqProofs [hlt, hx, hw, d27, goneStep]) (by simp) rfl (by simp) (by simp) (by simp)⟩
  · refine WpC.exit ?_
    have hkn : k = l.length := by omega
    subst hkn
    rw [List.take_of_length_le (Nat.le_refl _)] at hi
    refine WpC.seq (WpC.ops tabOk (r := []) (by simp -implicitDefEqProofs <;> rfl) rfl ?_)
    refine WpC.ret ?_
    try simp only [blockQ, seqQ]
    refine retD_i (by simp -implicitDefEqProofs <;> rfl) (by simp -implicitDefEqProofs <;> rfl) ?_
    rw [hi]; simp
end Go.Proofs.Ytndofikacmhejaa.Pay
