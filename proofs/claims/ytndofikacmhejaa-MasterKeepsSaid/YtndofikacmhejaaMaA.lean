/- What master's functions give: records, places. No statement of the seed is proved here. -/
import Derived.Test.YtndofikacmhejaaPayT
namespace Go.Proofs.Ytndofikacmhejaa.Pay
open Go Go.Proofs
set_option linter.unusedVariables false
set_option maxHeartbeats 4000000
set_option linter.unusedSimpArgs false

@[reducible] def dI (n : Int) : D := .int .i64 n
theorem take_all {α : Type} (p : α → Bool) {l : List α} {k : Nat} (h : k < l.length) : (l.take (k + 1)).all p = ((l.take k).all p && p l[k]) := by
  rw [List.take_add_one, List.getElem?_eq_getElem h]; simp only [Option.toList_some, List.all_append, List.all_cons, List.all_nil, Bool.and_true]

structure Rec where
  frm : Int
  ctr : Int
  base : Int
  bonus : Int
  hours : Int
  days : Int
  lead : Bool
def Rec.cs (r : Rec) : List D := [dI r.frm, dI r.ctr, dI r.base, dI r.bonus, dI r.hours, dI r.days, .bool r.lead]
def Rec.enc (r : Rec) : D := .agg r.cs
structure Ord where
  cred : Int
  pri : Int
  claim : Int
  bal : Int
def Ord.cs (o : Ord) : List D := [dI o.cred, dI o.pri, dI o.claim, dI o.bal]
def Ord.enc (o : Ord) : D := .agg o.cs
structure Per where
  id : Int
  hired : Int
  gone : Int
  recs : List Rec
  ords : List Ord
def encRs (l : List Rec) : D := .list 7 (l.map Rec.enc)
def encOs (l : List Ord) : D := .list 4 (l.map Ord.enc)
def Per.cs (p : Per) : List D := [dI p.id, dI p.hired, dI p.gone, encRs p.recs, encOs p.ords]
def Per.enc (p : Per) : D := .agg p.cs
def encPes (l : List Per) : D := .list 5 (l.map Per.enc)
def encM (l : List Per) : D := .agg [encPes l]
attribute [simp] Rec.cs Rec.enc Ord.cs Ord.enc encRs encOs Per.cs Per.enc encPes encM

def periodB (n : Int) : Bool := decide (22800 ≤ n ∧ n ≤ 35999)
theorem period_ok (n : Int) : Gives Try.prog 44 [.d (dI n)] (.d (.bool (periodB n))) := by
  refine Gives.enter tabOk Try.func44 rfl (by show 1 ≤ 9; decide) ?_
  simp only [Try.f44]
  refine WpC.seq (WpC.ops tabOk (r := []) (by simp -implicitDefEqProofs <;> rfl) rfl ?_)
  refine WpC.seq ?_
  refine WpC.val 2 (.d (.bool (periodB n))) ?_ ?_
  · refine WpC.region ?_
    refine WpO.run tabOk 3 (by simp -implicitDefEqProofs <;> first | exact ⟨rfl, rfl⟩ | rfl) ?_
    refine WpO.splitB 5 (by simp -implicitDefEqProofs <;> rfl) (by rfl) (fun g5 => ?_) (fun g5 => ?_)
    · have g5' := g5; first | simp only [dT, dF] at g5' | try simp at g5'
      refine WpO.run tabOk 4 (by simp -implicitDefEqProofs [g5] <;> first | exact ⟨rfl, rfl⟩ | rfl) ?_
      refine WpO.nil ?_
      refine ⟨rfl, Gh.only 2 8 ?_ (by first | rfl | simp -implicitDefEqProofs [g5]) (by rfl)⟩
      simp -implicitDefEqProofs [g5, g5', periodB]
    · have g5' := g5; first | simp only [dT, dF] at g5' | try simp at g5'
      refine WpO.run tabOk 4 (by simp -implicitDefEqProofs [g5] <;> first | exact ⟨rfl, rfl⟩ | rfl) ?_
      refine WpO.nil ?_
      refine ⟨rfl, Gh.only 2 8 ?_ (by first | rfl | simp -implicitDefEqProofs [g5]) (by rfl)⟩
      simp -implicitDefEqProofs [g5, g5', periodB]
  refine WpC.ret ?_
  try simp only [blockQ, seqQ]
  refine retD_i (by simp -implicitDefEqProofs <;> rfl) (by simp -implicitDefEqProofs <;> rfl) ?_
  simp [periodB]

def bigB (n : Int) : Bool := decide (0 ≤ n ∧ n ≤ 1099511627776)
def rightB (r : Rec) : Bool := [r.base, r.bonus, r.hours, r.days].all bigB && (periodB r.frm && decide (0 ≤ r.ctr) && decide (r.ctr ≤ 999))
theorem right_ok (r : Rec) : Gives Try.prog 36 [.d r.enc] (.d (.bool (rightB r))) := by
  obtain ⟨l, hl⟩ : ∃ l : List Int, [r.base, r.bonus, r.hours, r.days] = l := ⟨_, rfl⟩
  have hlen : l.length = 4 := by subst hl; rfl
  have hmap : [dI r.base, dI r.bonus, dI r.hours, dI r.days] = l.map dI := by subst hl; rfl
  unfold rightB
  rw [hl]
  refine Gives.enter tabOk Try.func36 rfl (by show 1 ≤ 43; decide) ?_
  simp only [Try.f36]
  refine WpC.seq (WpC.ops tabOk (r := []) (by simp -implicitDefEqProofs <;> rfl) rfl ?_)
  refine WpC.seq ?_
  refine WpC.seq (WpC.ops tabOk (r := []) (by simp -implicitDefEqProofs <;> rfl) rfl ?_)
  refine WpC.block ?_
  refine WpC.loopK [1, 17, 18] [19] (4) (() : Unit) (fun k _ => [(19, .d (.int .i64 k))]) (fun k _ => [.cells 63 (r.cs.map .d), .arr 3 1 (l.map dI)]) (fun k _ => (l.take k).all bigB = true) (by simp -implicitDefEqProofs <;> rfl) ((Gh.cut' [19, 1, 17, 18] 2 (by simp) (by simp [Rec.cs, ← hmap]) rfl (by simp) (by simp [Rec.cs]) (by simp))) (by simp) ?_
  rintro k ⟨⟩ hk hi
  simp only [List.cons_append, List.nil_append]
  refine WpC.seq (WpC.ops tabOk (r := []) (by simp -implicitDefEqProofs <;> rfl) rfl ?_)
  refine WpC.seq (WpC.condD (k < 4) (by simp -implicitDefEqProofs <;> omega) (fun hlt => ?_) (fun hge => ?_))
  · refine WpC.skip ?_
    have hkl : k < l.length := by omega
    have hst := take_all bigB hkl
    obtain ⟨n, hn⟩ : ∃ n, l[k] = n := ⟨_, rfl⟩
    have hw : IntKind.i64.wrap ((k : Int) + 1) = k + 1 := wrapI (by omega) (by omega)
    rw [hi, hn, Bool.true_and] at hst
    refine WpC.seq ?_
    refine WpC.block ?_
    refine WpC.seq (WpC.ops tabOk (r := []) (by simp -implicitDefEqProofs [hlt, hkl, hn, hlen] <;> rfl) rfl ?_)
    refine WpC.seq ?_
    refine WpC.val 28 (.d (.bool (decide (n < 0 ∨ 1099511627776 < n)))) ?_ ?_
    · refine WpC.region ?_
      refine WpO.run tabOk 3 (by simp -implicitDefEqProofs [hlt, hkl, hn, hlen] <;> first | exact ⟨rfl, rfl⟩ | rfl) ?_
      refine WpO.splitB 25 (by simp -implicitDefEqProofs [hlt, hkl, hn, hlen] <;> rfl) (by rfl) (fun g25 => ?_) (fun g25 => ?_)
      · have g25' := g25; first | simp only [dT, dF] at g25' | try simp at g25'
        refine WpO.run tabOk 3 (by simp -implicitDefEqProofs [hlt, hkl, hn, hlen, g25] <;> first | exact ⟨rfl, rfl⟩ | rfl) ?_
        refine WpO.nil ?_
        refine ⟨rfl, Gh.only 28 7 ?_ (by first | rfl | simp -implicitDefEqProofs [hlt, hkl, hn, hlen, g25]) (by rfl)⟩
        simp -implicitDefEqProofs [hlt, hkl, hn, hlen, g25, g25']
      · have g25' := g25; first | simp only [dT, dF] at g25' | try simp at g25'
        refine WpO.run tabOk 3 (by simp -implicitDefEqProofs [hlt, hkl, hn, hlen, g25] <;> first | exact ⟨rfl, rfl⟩ | rfl) ?_
        refine WpO.nil ?_
        refine ⟨rfl, Gh.only 28 7 ?_ (by first | rfl | simp -implicitDefEqProofs [hlt, hkl, hn, hlen, g25]) (by rfl)⟩
        simp -implicitDefEqProofs [hlt, hkl, hn, hlen, g25, g25']
    refine WpC.condD (n < 0 ∨ 1099511627776 < n) (by simp -implicitDefEqProofs [hlt, hkl, hn, hlen]) (fun d28 => ?_) (fun d28 => ?_)
    · refine WpC.seq (WpC.ops tabOk (r := []) (by simp -implicitDefEqProofs [hlt, hkl, hn, hlen, d28] <;> rfl) rfl ?_)
      refine WpC.ret ?_
      try simp only [blockQ, seqQ]
      refine retD_i (by simp -implicitDefEqProofs [hlt, hkl, hn, hlen, d28] <;> rfl) (by simp -implicitDefEqProofs [hlt, hkl, hn, hlen, d28] <;> rfl) ?_
      have : l.all bigB = false := by
          rw [List.all_eq_false]
          exact ⟨n, hn ▸ List.getElem_mem hkl, by simp [bigB]; omega⟩
      simp [this]
    · refine WpC.skip ?_
      refine WpC.ops tabOk (r := []) (by simp -implicitDefEqProofs [hlt, hkl, hn, hlen, d28] <;> rfl) rfl ?_
      exact ⟨hlt, (), by rw [hst]; simp [bigB]; omega, (Gh.cut' [19, 1, 17, 18] 2 (by simp [hw]) (by simp [Rec.cs]) rfl (by simp) (by simp [Rec.cs]) (by simp))⟩
  · refine WpC.exit ?_
    have hkn : k = 4 := by omega
    subst hkn
    rw [List.take_of_length_le (by omega)] at hi
    refine WpC.seq ?_
    refine WpC.val 2 (.d (.bool (periodB r.frm && decide (0 ≤ r.ctr) && decide (r.ctr ≤ 999)))) ?_ ?_
    · refine WpC.region ?_
      refine WpO.run tabOk 2 (by simp -implicitDefEqProofs <;> first | exact ⟨rfl, rfl⟩ | rfl) ?_
      refine WpO.data (by simp) rfl (by simp -implicitDefEqProofs <;> rfl) (by simp -implicitDefEqProofs <;> rfl) (by simp -implicitDefEqProofs <;> rfl) call_44 (by simp) (period_ok r.frm) (by rfl) (by simp -implicitDefEqProofs <;> rfl) ?_
      refine WpO.run tabOk 1 (by simp -implicitDefEqProofs <;> first | exact ⟨rfl, rfl⟩ | rfl) ?_
      refine WpO.splitB 33 (by simp -implicitDefEqProofs <;> rfl) (by rfl) (fun g33 => ?_) (fun g33 => ?_)
      · have g33' := g33; first | simp only [dT, dF] at g33' | try simp at g33'
        refine WpO.run tabOk 5 (by simp -implicitDefEqProofs [g33] <;> first | exact ⟨rfl, rfl⟩ | rfl) ?_
        refine WpO.splitB 38 (by simp -implicitDefEqProofs [g33] <;> rfl) (by rfl) (fun g38 => ?_) (fun g38 => ?_)
        · have g38' := g38; first | simp only [dT, dF] at g38' | try simp at g38'
          refine WpO.run tabOk 5 (by simp -implicitDefEqProofs [g33, g38] <;> first | exact ⟨rfl, rfl⟩ | rfl) ?_
          refine WpO.nil ?_
          refine ⟨rfl, Gh.only 2 16 ?_ (by first | rfl | simp -implicitDefEqProofs [g33, g38]) (by rfl)⟩
          simp -implicitDefEqProofs [g33, g38, g33', g38']
        · have g38' := g38; first | simp only [dT, dF] at g38' | try simp at g38'
          refine WpO.run tabOk 5 (by simp -implicitDefEqProofs [g33, g38] <;> first | exact ⟨rfl, rfl⟩ | rfl) ?_
          refine WpO.nil ?_
          refine ⟨rfl, Gh.only 2 16 ?_ (by first | rfl | simp -implicitDefEqProofs [g33, g38]) (by rfl)⟩
          simp -implicitDefEqProofs [g33, g38, g33', g38']
      · have g33' := g33; first | simp only [dT, dF] at g33' | try simp at g33'
        refine WpO.run tabOk 10 (by simp -implicitDefEqProofs [g33] <;> first | exact ⟨rfl, rfl⟩ | rfl) ?_
        refine WpO.nil ?_
        refine ⟨rfl, Gh.only 2 15 ?_ (by first | rfl | simp -implicitDefEqProofs [g33]) (by rfl)⟩
        simp -implicitDefEqProofs [g33, g33']
    refine WpC.ret ?_
    try simp only [blockQ, seqQ]
    refine retD_i (by simp -implicitDefEqProofs <;> rfl) (by simp -implicitDefEqProofs <;> rfl) ?_
    simp [hi]
end Go.Proofs.Ytndofikacmhejaa.Pay
