/- What journal's functions give: balances, debits and credits. No statement of the seed is proved here. -/
import Derived.Test.YtndofikacmhejaaPayT
namespace Go.Proofs.Ytndofikacmhejaa.Pay
open Go Go.Proofs
set_option maxHeartbeats 4000000
set_option linter.unusedSimpArgs false

structure Pst where
  acc : Int
  ctr : Int
  amt : Int
def Pst.enc (p : Pst) : D := .agg [.int .i64 p.acc, .int .i64 p.ctr, .int .i64 p.amt]
def encPs (l : List Pst) : D := .list 3 (l.map Pst.enc)
def Pst.ok (p : Pst) : Prop := inI p.acc ∧ inI p.ctr ∧ inI p.amt

def balStep (account centre n : Int) (p : Pst) : Int := if p.acc = account ∧ (centre < 0 ∨ p.ctr = centre) then IntKind.i64.wrap (n + p.amt) else n
def balance (l : List Pst) (account centre : Int) : Int := l.foldl (balStep account centre) 0

theorem balance_ok (l : List Pst) (account centre : Int) (hl : l.length ≤ 1000000000) : WpF Try.prog 16 [.d (encPs l), .d (.int .i64 account), .d (.int .i64 centre)] [] (fun r S => r = .d (.int .i64 (balance l account centre)) ∧ S = []) := by
  refine WpF.enter tabOk Try.func16 rfl (by show 3 ≤ 36; decide) ?_
  simp only [Try.f16]
  refine WpC.seq (WpC.ops tabOk (r := []) (by simp -implicitDefEqProofs <;> rfl) rfl ?_)
  refine WpC.seq (WpC.ops tabOk (r := []) (by simp -implicitDefEqProofs <;> rfl) rfl ?_)
  refine WpC.seq ?_
  refine WpC.seq (WpC.ops tabOk (r := []) (by simp -implicitDefEqProofs [encPs] <;> rfl) rfl ?_)
  refine WpC.block (WpC.count l.length (fun k => ⟨[(1, .d (.int .i64 account)), (2, .d (.int .i64 centre)), (7, .d (.int .i64 ((l.take k).foldl (balStep account centre) 0))), (10, .d (encPs l)), (11, .d (.int .i64 l.length)), (12, .d (.int .i64 k))], [], 36, 0⟩)
    (Gh.cut' [1, 2, 7, 10, 11, 12] 0 (by simp [encPs]) rfl rfl rfl rfl (by simp)) fun k hk => ?_)
  refine WpC.seq (WpC.ops tabOk (r := []) (by simp -implicitDefEqProofs <;> rfl) rfl ?_)
  refine WpC.seq (WpC.condD (k < l.length) (by simp) (fun hlt => ?_) (fun hge => ?_))
  · refine WpC.skip ?_
    have hst := foldl_take (balStep account centre) 0 hlt
    obtain ⟨p, hp⟩ : ∃ p, l[k] = p := ⟨_, rfl⟩
    rw [hp] at hst
    have hw : IntKind.i64.wrap ((k : Int) + 1) = k + 1 := wrapI (by omega) (by omega)
    refine WpC.seq (WpC.block ?_)
    refine WpC.seq (WpC.ops tabOk (r := []) (by simp -implicitDefEqProofs [encPs, hp, hlt, Pst.enc] <;> rfl) rfl ?_)
    by_cases h1 : p.acc = account
    · by_cases h2 : centre < 0
      · refine WpC.seq (WpC.ops tabOk (r := []) (by simp -implicitDefEqProofs [h1, h2] <;> rfl) rfl ?_)
        refine WpC.condT (by simp) ?_
        refine WpC.ops tabOk (r := []) (by simp -implicitDefEqProofs <;> rfl) rfl ?_
        refine WpC.ops tabOk (r := []) (by simp -implicitDefEqProofs [hw] <;> rfl) rfl ?_
        exact ⟨hlt, Gh.cut' [1, 2, 7, 10, 11, 12] 0 (by simp [hst, balStep, h1, h2, encPs]) rfl rfl rfl rfl (by simp)⟩
      · by_cases h3 : p.ctr = centre
        · refine WpC.seq (WpC.ops tabOk (r := []) (by simp -implicitDefEqProofs [h1, h2, h3] <;> rfl) rfl ?_)
          refine WpC.condT (by simp) ?_
          refine WpC.ops tabOk (r := []) (by simp -implicitDefEqProofs <;> rfl) rfl ?_
          refine WpC.ops tabOk (r := []) (by simp -implicitDefEqProofs [hw] <;> rfl) rfl ?_
          exact ⟨hlt, Gh.cut' [1, 2, 7, 10, 11, 12] 0 (by simp [hst, balStep, h1, h3, encPs]) rfl rfl rfl rfl (by simp)⟩
        · refine WpC.seq (WpC.ops tabOk (r := []) (by simp -implicitDefEqProofs [h1, h2, h3] <;> rfl) rfl ?_)
          refine WpC.condF (by simp [h3]) (WpC.skip ?_)
          refine WpC.ops tabOk (r := []) (by simp -implicitDefEqProofs [hw] <;> rfl) rfl ?_
          exact ⟨hlt, Gh.cut' [1, 2, 7, 10, 11, 12] 0 (by simp [hst, balStep, h1, h2, h3, encPs]) rfl rfl rfl rfl (by simp)⟩
    · refine WpC.seq (WpC.ops tabOk (r := []) (by simp -implicitDefEqProofs [h1] <;> rfl) rfl ?_)
      refine WpC.condF (by simp) (WpC.skip ?_)
      refine WpC.ops tabOk (r := []) (by simp -implicitDefEqProofs [hw] <;> rfl) rfl ?_
      exact ⟨hlt, Gh.cut' [1, 2, 7, 10, 11, 12] 0 (by simp [hst, balStep, h1, encPs]) rfl rfl rfl rfl (by simp)⟩
  · refine WpC.exit ?_
    refine WpC.seq (WpC.ops tabOk (r := []) (by simp -implicitDefEqProofs <;> rfl) rfl ?_)
    refine WpC.ret ?_
    have hkl : k = l.length := by omega
    subst hkl
    simp [retQ, balance]

theorem right_ok (n : Int) : WpF Try.prog 30 [.d (.int .i64 n)] [] (fun r S => r = .d (.bool (decide (-9223372036854775807 ≤ n))) ∧ S = []) := by
  refine WpF.enter tabOk Try.func30 rfl (by show 1 ≤ 5; decide) ?_
  simp only [Try.f30]
  refine WpC.seq (WpC.ops tabOk (r := []) (by simp -implicitDefEqProofs <;> rfl) rfl ?_)
  refine WpC.seq (WpC.ops tabOk (r := []) (by simp -implicitDefEqProofs <;> rfl) rfl ?_)
  refine WpC.ret ?_
  simp [retQ]

theorem right1_ok (n : Int) (h : inI n) : WpF Try.prog 31 [.d (.int .i64 n)] [] (fun r S => r = .d (.bool (decide (-9223372036854775807 ≤ n))) ∧ S = []) := by
  refine WpF.enter tabOk Try.func31 rfl (by show 1 ≤ 5; decide) ?_
  simp only [Try.f31]
  refine WpC.seq (WpC.ops tabOk (r := []) (by simp -implicitDefEqProofs <;> rfl) rfl ?_)
  refine WpC.seq (WpC.ops tabOk (r := []) (by simp -implicitDefEqProofs <;> rfl) rfl ?_)
  refine WpC.ret ?_
  have : (n != -9223372036854775808) = decide (-9223372036854775807 ≤ n) := by
    unfold inI at h
    by_cases h1 : n = -9223372036854775808
    · subst h1; decide
    · rw [decide_eq_true (by omega), bneI]; simp [h1]
  have this' : (!decide (n = -9223372036854775808)) = decide (-9223372036854775807 ≤ n) := by rw [← this]; simp
  simp [this']

/-- Debits and credits; none: too much. -/
def tot : List Pst → Int → Int → Option (Int × Int)
  | [], d, c => some (d, c)
  | p :: r, d, c => if p.amt < -9223372036854775807 ∨ 9007199254740992 - d - c < p.amt.natAbs then none else if 0 < p.amt then tot r (d + p.amt.natAbs) c else tot r d (c + p.amt.natAbs)

def totR : Option (Int × Int) → FV
  | none => .tup [.d (.int .i64 0), .d (.int .i64 0), .d (.bool false)]
  | some (d, c) => .tup [.d (.int .i64 d), .d (.int .i64 c), .d (.bool true)]

theorem totals1_ok (l : List Pst) (hl : l.length ≤ 1000000000) (hp : ∀ p ∈ l, Pst.ok p) : WpF Try.prog 14 [.d (encPs l)] [] (fun r S => r = totR (tot l 0 0) ∧ S = []) := by
  obtain ⟨R, hR⟩ : ∃ R, tot l 0 0 = R := ⟨_, rfl⟩
  rw [hR]
  refine WpF.enter tabOk Try.func14 rfl (by show 1 ≤ 44; decide) ?_
  simp only [Try.f14]
  refine WpC.seq (WpC.ops tabOk (r := []) (by simp -implicitDefEqProofs <;> rfl) rfl ?_)
  refine WpC.seq (WpC.ops tabOk (r := []) (by simp -implicitDefEqProofs <;> rfl) rfl ?_)
  refine WpC.seq ?_
  refine WpC.seq (WpC.ops tabOk (r := []) (by simp -implicitDefEqProofs [encPs] <;> rfl) rfl ?_)
  refine WpC.block (WpC.countP l.length (fun k s => ∃ d c, s = ⟨[(5, .d (.int .i64 d)), (6, .d (.int .i64 c)), (10, .d (encPs l)), (11, .d (.int .i64 l.length)), (12, .d (.int .i64 k))], [], 44, 0⟩ ∧ 0 ≤ d ∧ 0 ≤ c ∧ d + c ≤ 9007199254740992 ∧ tot (l.drop k) d c = R)
    ⟨_, Gh.cut' [5, 6, 10, 11, 12] 0 (by simp; rfl) rfl rfl rfl rfl (by simp), 0, 0, by simp [encPs], by simp, by simp, by simp, by simpa using hR⟩ fun k s hk ⟨d, c, hs, hd, hc, hdc, ht⟩ => ?_)
  subst hs
  refine WpC.seq (WpC.ops tabOk (r := []) (by simp -implicitDefEqProofs <;> rfl) rfl ?_)
  refine WpC.seq (WpC.condD (k < l.length) (by simp) (fun hlt => ?_) (fun hge => ?_))
  · refine WpC.skip ?_
    rw [drop_cons hlt] at ht
    have hpk := hp l[k] (List.getElem_mem hlt)
    obtain ⟨p, hpp⟩ : ∃ p, l[k] = p := ⟨_, rfl⟩
    rw [hpp] at ht hpk
    obtain ⟨hp1, hp2, hp3⟩ := hpk
    have hp4 := hp3
    unfold inI at hp4
    have hw : IntKind.i64.wrap ((k : Int) + 1) = k + 1 := wrapI (by omega) (by omega)
    refine WpC.seq (WpC.block ?_)
    refine WpC.seq (WpC.ops tabOk (r := []) (by simp -implicitDefEqProofs [encPs, hpp, hlt, Pst.enc] <;> rfl) rfl ?_)
    refine WpC.seq (WpC.seq (WpC.region ?_))
    refine WpO.run tabOk 2 (by simp -implicitDefEqProofs <;> exact ⟨rfl, rfl⟩) ?_
    refine WpO.callD (by simp) rfl (by simp -implicitDefEqProofs <;> rfl) (by simp -implicitDefEqProofs <;> rfl) (by simp -implicitDefEqProofs <;> rfl) call_31 (by simp) (right1_ok p.amt hp3) fun r S1 hr => ?_
    obtain ⟨rfl, rfl⟩ := hr
    refine ⟨_, by simp <;> rfl, ?_⟩
    refine WpO.run tabOk 1 (by simp -implicitDefEqProofs <;> exact ⟨rfl, rfl⟩) ?_
    refine WpO.nil ?_
    unfold tot at ht
    refine WpC.condD (p.amt < -9223372036854775807) (by simp <;> (rw [Bool.eq_iff_iff]; simp <;> omega)) (fun h1 => ?_) (fun h1 => ?_)
    · refine WpC.seq (WpC.ops tabOk (r := []) (by simp -implicitDefEqProofs <;> rfl) rfl ?_)
      refine WpC.gh (Gh.cut' [2, 3, 4] 0 (by simp; rfl) rfl rfl rfl rfl (by simp)) (WpC.ret ?_)
      rw [if_pos (.inl (by omega))] at ht
      simp [← ht, totR]
    refine WpC.skip ?_
    refine WpC.seq (WpC.ops tabOk (r := []) (by simp -implicitDefEqProofs <;> rfl) rfl ?_)
    refine WpC.seq ?_
    refine WpC.seq (WpC.ops tabOk (r := []) (by simp -implicitDefEqProofs <;> rfl) rfl ?_)
    have hneg : IntKind.i64.wrap (- p.amt) = - p.amt := wrapI (by omega) (by omega)
    have hw1 : IntKind.i64.wrap (9007199254740992 - d) = 9007199254740992 - d := wrapI (by omega) (by omega)
    have hw2 : IntKind.i64.wrap (9007199254740992 - d - c) = 9007199254740992 - d - c := wrapI (by omega) (by omega)
    refine WpC.condD (p.amt < 0) (by simp) (fun h2 => ?_) (fun h2 => ?_)
    · refine WpC.ops tabOk (r := []) (by simp -implicitDefEqProofs [hneg] <;> rfl) rfl ?_
      refine WpC.seq ?_
      refine WpC.seq (WpC.ops tabOk (r := []) (by simp -implicitDefEqProofs [hw1, hw2] <;> rfl) rfl ?_)
      have hn : ((p.amt.natAbs : Nat) : Int) = - p.amt := by omega
      rw [hn] at ht
      refine WpC.condD (9007199254740992 - d - c < - p.amt) (by simp) (fun h3 => ?_) (fun h3 => ?_)
      · refine WpC.seq (WpC.ops tabOk (r := []) (by simp -implicitDefEqProofs <;> rfl) rfl ?_)
        refine WpC.gh (Gh.cut' [2, 3, 4] 0 (by simp; rfl) rfl rfl rfl rfl (by simp)) (WpC.ret ?_)
        rw [if_pos (.inr h3)] at ht
        simp [← ht, totR]
      refine WpC.skip ?_
      refine WpC.seq (WpC.ops tabOk (r := []) (by simp -implicitDefEqProofs <;> rfl) rfl ?_)
      refine WpC.condF (by simp; omega) ?_
      rw [if_neg (by omega), if_neg (by omega)] at ht
      have hw3 : IntKind.i64.wrap (c + - p.amt) = c + - p.amt := wrapI (by omega) (by omega)
      refine WpC.ops tabOk (r := []) (by simp -implicitDefEqProofs [hw3] <;> rfl) rfl ?_
      refine WpC.ops tabOk (r := []) (by simp -implicitDefEqProofs [hw] <;> rfl) rfl ?_
      exact ⟨hlt, _, Gh.cut' [5, 6, 10, 11, 12] 0 (by simp; rfl) rfl rfl rfl rfl (by simp), d, c + - p.amt, by simp [encPs], by omega, by omega, by omega, ht⟩
    · refine WpC.skip ?_
      refine WpC.seq ?_
      refine WpC.seq (WpC.ops tabOk (r := []) (by simp -implicitDefEqProofs [hw1, hw2] <;> rfl) rfl ?_)
      have hn : ((p.amt.natAbs : Nat) : Int) = p.amt := by omega
      rw [hn] at ht
      refine WpC.condD (9007199254740992 - d - c < p.amt) (by simp) (fun h3 => ?_) (fun h3 => ?_)
      · refine WpC.seq (WpC.ops tabOk (r := []) (by simp -implicitDefEqProofs <;> rfl) rfl ?_)
        refine WpC.gh (Gh.cut' [2, 3, 4] 0 (by simp; rfl) rfl rfl rfl rfl (by simp)) (WpC.ret ?_)
        rw [if_pos (.inr h3)] at ht
        simp [← ht, totR]
      refine WpC.skip ?_
      refine WpC.seq (WpC.ops tabOk (r := []) (by simp -implicitDefEqProofs <;> rfl) rfl ?_)
      refine WpC.condD (0 < p.amt) (by simp) (fun h4 => ?_) (fun h4 => ?_)
      · rw [if_neg (by omega), if_pos h4] at ht
        have hw3 : IntKind.i64.wrap (d + p.amt) = d + p.amt := wrapI (by omega) (by omega)
        refine WpC.ops tabOk (r := []) (by simp -implicitDefEqProofs [hw3] <;> rfl) rfl ?_
        refine WpC.ops tabOk (r := []) (by simp -implicitDefEqProofs [hw] <;> rfl) rfl ?_
        exact ⟨hlt, _, Gh.cut' [5, 6, 10, 11, 12] 0 (by simp; rfl) rfl rfl rfl rfl (by simp), d + p.amt, c, by simp [encPs], by omega, by omega, by omega, ht⟩
      · rw [if_neg (by omega), if_neg h4] at ht
        have hw3 : IntKind.i64.wrap (c + p.amt) = c + p.amt := wrapI (by omega) (by omega)
        refine WpC.ops tabOk (r := []) (by simp -implicitDefEqProofs [hw3] <;> rfl) rfl ?_
        refine WpC.ops tabOk (r := []) (by simp -implicitDefEqProofs [hw] <;> rfl) rfl ?_
        exact ⟨hlt, _, Gh.cut' [5, 6, 10, 11, 12] 0 (by simp; rfl) rfl rfl rfl rfl (by simp), d, c + p.amt, by simp [encPs], by omega, by omega, by omega, ht⟩
  · refine WpC.exit ?_
    refine WpC.seq (WpC.ops tabOk (r := []) (by simp -implicitDefEqProofs <;> rfl) rfl ?_)
    refine WpC.ret ?_
    have hkl : k = l.length := by omega
    subst hkl
    simp [tot] at ht
    simp [← ht, totR]
end Go.Proofs.Ytndofikacmhejaa.Pay
