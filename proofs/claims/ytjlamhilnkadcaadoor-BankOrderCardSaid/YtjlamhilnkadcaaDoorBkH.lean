/- The document's answer for the bank: digits, rows ahead of the text; the law's file as the document's. No statement of the seed is proved here. -/
import Derived.Test.YtjlamhilnkadcaaDoorBkD
namespace Go.Proofs.YtjlamhilnkadcaaDoor.Pay
open Go Go.RowKit
set_option linter.unusedVariables false
set_option linter.unusedSimpArgs false

def rankI (p : Pm) : Int := if p.kind = 69 then 0 else 1
theorem rank_ok (p : Pm) : Gives Tryd.prog 19 [.d p.enc] (.d (dI (rankI p))) := by
  refine Gives.enter tabOk Tryd.func19 rfl (by show 1 ≤ 6; decide) ?_
  simp only [Tryd.f19]
  refine qR (by simp -implicitDefEqProofs <;> rfl) ?_
  refine WpC.seq ?_
  refine qR (by simp -implicitDefEqProofs <;> rfl) ?_
  refine WpC.condD (p.kind = 69) (by simp -implicitDefEqProofs) (fun d5 => ?_) (fun d5 => ?_)
  · refine qR (by simp -implicitDefEqProofs [d5] <;> rfl) ?_
    refine WpC.ret ?_
    try simp only [blockQ, seqQ]
    refine retD_i (by simp -implicitDefEqProofs [d5] <;> rfl) (by simp -implicitDefEqProofs [d5] <;> rfl) ?_
    simp [rankI, d5]
  refine WpC.skip ?_
  refine qR (by simp -implicitDefEqProofs [d5] <;> rfl) ?_
  refine WpC.ret ?_
  try simp only [blockQ, seqQ]
  refine retD_i (by simp -implicitDefEqProofs [d5] <;> rfl) (by simp -implicitDefEqProofs [d5] <;> rfl) ?_
  simp [rankI, d5]
/-- The last digit, as the code makes it. -/
theorem dig_last (m : Nat) (h : m ≤ 9223372036854775807) : ∃ (d e : Int) (b : UInt8), (m : Int).tmod 10 = d ∧ IntKind.i64.wrap (48 + d) = e ∧ IntKind.u8.wrap e = e ∧ UInt8.ofNat e.toNat = b ∧ b = UInt8.ofNat (48 + m % 10) := by
  refine ⟨((m % 10 : Nat) : Int), 48 + ((m % 10 : Nat) : Int), UInt8.ofNat (48 + m % 10), ?_, wrapI (by omega) (by omega), ?_, ?_, rfl⟩
  · rw [Int.tmod_eq_emod_of_nonneg (by omega)]; omega
  · simp only [IntKind.wrap, IntKind.bits, IntKind.signed]; simp; omega
  · congr 1
theorem decDigits_last (m : Nat) : Lib.decDigits m = (if m < 10 then [] else Lib.decDigits (m / 10)) ++ [UInt8.ofNat (48 + m % 10)] := by
  rw [Lib.decDigits]
  split
  · rename_i h; rw [Nat.mod_eq_of_lt h]; rfl
  · rfl
theorem digits_ok (N : Nat) (h : N ≤ 9223372036854775807) : Gives Tryd.prog 32 [.d (dI N)] (.d (.str (Lib.itoa N))) := by
  have hN : Lib.itoa (N : Int) = Lib.decDigits N := by simp [Lib.itoa]
  rw [hN]
  have hl := decDigits_last N
  obtain ⟨d, e, b, w1, w2, w3, w4, w5⟩ := dig_last N h
  rw [← w5] at hl
  refine Gives.enter tabOk Tryd.func32 rfl (by show 1 ≤ 23; decide) ?_
  simp only [Tryd.f32]
  have H1 := And.intro w1 (And.intro w2 (And.intro w3 w4))
  iterate 2 refine qR (by simp -implicitDefEqProofs [u8s, H1] <;> rfl) ?_
  refine WpC.seq ?_
  refine WpC.block ?_
  refine WpC.loopM [] [0, 3] (fun x => x.1) ((N, [b]) : Nat × List UInt8) (fun x => [(0, .d (dI x.1)), (3, .d (.str x.2))]) (fun x => []) (fun x => x.1 ≤ N ∧ x.2.length ≤ 1 + N - x.1 ∧ Lib.decDigits N = (if x.1 < 10 then [] else Lib.decDigits (x.1 / 10)) ++ x.2) (by simp -implicitDefEqProofs [u8s, H1] <;> rfl) (Gh.cut' [0, 3] 0 (by simp -implicitDefEqProofs [u8s, H1]) (by simp -implicitDefEqProofs [u8s, H1]) rfl (by simp) (by simp) (by simp)) (⟨Nat.le_refl _, by simp, hl⟩) ?_
  rintro x hi
  simp only [List.cons_append, List.nil_append]
  obtain ⟨m, s⟩ := x
  obtain ⟨h1, h2, h3⟩ := hi
  simp only at h1 h2 h3 ⊢
  refine WpC.seq ?_
  refine qR (by simp -implicitDefEqProofs [u8s, H1] <;> rfl) ?_
  refine WpC.condD ((9 : Int) < m) (by simp -implicitDefEqProofs [u8s, H1]) (fun d11 => ?_) (fun d11 => ?_)
  · obtain ⟨q, hq⟩ : ∃ q, m / 10 = q := ⟨_, rfl⟩
    have v1 : IntKind.i64.wrap ((m : Int) / 10) = (q : Int) := by rw [wrapI (by omega) (by omega)]; omega
    obtain ⟨d2, e2, b2, v2, v3, v4, v5, v6⟩ := dig_last q (by omega)
    have v7 : ¬ ((9223372036854775807 : Int) < 1 + s.length) := by omega
    have hd2 : Lib.decDigits N = (if q < 10 then [] else Lib.decDigits (q / 10)) ++ b2 :: s := by
      rw [h3, if_neg (by omega), hq, decDigits_last q, ← v6]
      simp
    refine WpC.skip ?_
    refine WpC.block ?_
    have H2 := And.intro H1 (And.intro d11 (And.intro v1 (And.intro v2 (And.intro v3 (And.intro v4 (And.intro v5 v7))))))
    refine qR (by simp -implicitDefEqProofs [u8s, H2] <;> rfl) ?_
    refine qr (by simp -implicitDefEqProofs [u8s, H2] <;> rfl) ?_
    exact ⟨(q, b2 :: s), ⟨by simp only; omega, by simp only [List.length_cons]; omega, hd2⟩, by simp only; omega, Gh.cut' [0, 3] 0 (by simp -implicitDefEqProofs [u8s, H2]) (by simp) rfl (by simp) (by simp) (by simp)⟩
  refine WpC.exit ?_
  refine qR (by simp -implicitDefEqProofs [u8s, H1, d11] <;> rfl) ?_
  refine WpC.ret ?_
  try simp only [blockQ, seqQ]
  refine retD_i (by simp -implicitDefEqProofs [u8s, H1, d11] <;> rfl) (by simp -implicitDefEqProofs [u8s, H1, d11] <;> rfl) ?_
  rw [h3, if_pos (by omega)]
  simp
theorem wide22_ok (n d : Nat) (hn : n ≤ 9223372036854775807) (hd : d ≤ 1000) : Gives Tryd.prog 23 [.d (dI n), .d (dI d)] (.d (.str (wideL n d))) := by
  have hl := itoa_len (n := n) (by omega) (by omega)
  have hc := digits_ok n hn
  obtain ⟨s, hs⟩ : ∃ s, Lib.itoa n = s := ⟨_, rfl⟩
  rw [hs] at hc hl
  have hwd : wideL n d = List.replicate (d - s.length) 48 ++ s := by rw [wideL, hs]
  rw [hwd]
  refine Gives.enter tabOk Tryd.func23 rfl (by show 2 ≤ 15; decide) ?_
  simp only [Tryd.f23]
  refine qR (by simp -implicitDefEqProofs <;> rfl) ?_
  refine WpC.seq ?_
  refine WpC.region ?_
  refine WpO.run tabOk 1 (by simp -implicitDefEqProofs <;> first | exact ⟨rfl, rfl⟩ | rfl) ?_
  refine WpO.data (by simp) rfl (by simp -implicitDefEqProofs <;> rfl) (by simp -implicitDefEqProofs <;> rfl) (by simp -implicitDefEqProofs <;> rfl) call_32 (by simp) (hc) (by rfl) (by simp -implicitDefEqProofs <;> rfl) ?_
  refine WpO.run tabOk 1 (by simp -implicitDefEqProofs <;> first | exact ⟨rfl, rfl⟩ | rfl) ?_
  refine WpO.nil ?_
  refine WpC.seq ?_
  refine WpC.block ?_
  refine WpC.loopM [1] [5] (fun j => d - j) (0 : Nat) (fun j => [(5, .d (.str (List.replicate j 48 ++ s)))]) (fun j => []) (fun j => j ≤ d - s.length) (by simp -implicitDefEqProofs <;> rfl) (Gh.cut' [5, 1] 0 (by simp -implicitDefEqProofs) (by simp -implicitDefEqProofs) rfl (by simp) (by simp) (by simp)) (by omega) ?_
  rintro j hi
  simp only [List.cons_append, List.nil_append]
  have f1 : ¬ ((9223372036854775807 : Int) < 1 + (j + s.length)) := by omega
  refine WpC.seq ?_
  refine qR (by simp -implicitDefEqProofs [f1] <;> rfl) ?_
  refine WpC.condD ((j : Int) + s.length < d) (by simp -implicitDefEqProofs [f1]) (fun d11 => ?_) (fun d11 => ?_)
  · refine WpC.skip ?_
    refine WpC.block ?_
    refine qr (by simp -implicitDefEqProofs [f1, d11] <;> rfl) ?_
    exact ⟨j + 1, by omega, by omega, Gh.cut' [5, 1] 0 (by simp -implicitDefEqProofs [f1, d11, List.replicate_succ]) (by simp) rfl (by simp) (by simp) (by simp)⟩
  refine WpC.exit ?_
  refine qR (by simp -implicitDefEqProofs [f1, d11] <;> rfl) ?_
  refine WpC.ret ?_
  try simp only [blockQ, seqQ]
  refine retD_i (by simp -implicitDefEqProofs [f1, d11] <;> rfl) (by simp -implicitDefEqProofs [f1, d11] <;> rfl) ?_
  have : d - s.length = j := by omega
  rw [this]; simp
@[reducible] def encF22 (per : Int) (l : List Pm) : D := encF per l
theorem ref_ok (per : Int) (l : List Pm) (hl : l.length ≤ 1000000000) : Gives Tryd.prog 11 [.d (encF per l)] (.d (encF per l)) := by
  refine Gives.enter tabOk Tryd.func11 rfl (by show 1 ≤ 24; decide) ?_
  simp only [Tryd.f11]
  iterate 2 refine qR (by simp -implicitDefEqProofs <;> rfl) ?_
  refine WpC.seq ?_
  refine WpC.gh (Gh.nilCell (id := 2) (off := 1) 55 3 (by rfl) (by rfl) (by simp)) ?_
  simp
  refine qR (by simp -implicitDefEqProofs <;> rfl) ?_
  refine WpC.block ?_
  refine WpC.loopK [2, 3, 10, 11] [12] (l.length) (() : Unit) (fun k _ => [(12, .d (.int .i64 k))]) (fun k _ => [.cells 24 [.d (dI per), .d (encPm l)], .cells 32 [.d (dI 0), .d .nil], .cells 32 [.d (dI per), .sl 3 k], .arr 55 3 ((l.take k).map Pm.enc)]) (fun k _ => True) (by simp -implicitDefEqProofs <;> rfl) (Gh.cut' [12, 2, 3, 10, 11] 4 (by simp -implicitDefEqProofs) (by simp -implicitDefEqProofs) rfl (by simp) (by simp) (by simp)) (by simp) ?_
  rintro k ⟨⟩ hk hi
  simp only [List.cons_append, List.nil_append]
  refine qR (by simp -implicitDefEqProofs <;> rfl) ?_
  refine WpC.seq (WpC.condD (k < l.length) (by simp -implicitDefEqProofs <;> omega) (fun hlt => ?_) (fun hge => ?_))
  · refine WpC.skip ?_
    have hkl : k < l.length := by omega
    obtain ⟨p, hp⟩ : ∃ p, l[k] = p := ⟨_, rfl⟩
    have hw : IntKind.i64.wrap ((k : Int) + 1) = k + 1 := wrapI (by omega) (by omega)
    have htk : l.take (k + 1) = l.take k ++ [p] := by rw [List.take_add_one, List.getElem?_eq_getElem hkl, hp]; rfl
    have hmk : min k l.length = k := by omega
    have hk8 : k ≤ 8589934591 := by omega
    have H1 := And.intro hlt (And.intro hkl (And.intro hp (And.intro hw (And.intro hmk hk8))))
    refine WpC.seq ?_
    refine WpC.block ?_
    refine qR (by simp -implicitDefEqProofs [H1] <;> rfl) ?_
    iterate 2 refine qr (by simp -implicitDefEqProofs [H1] <;> rfl) ?_
    exact ⟨hlt, (), trivial, Gh.pick [12, 2, 3, 10, 11] [0, 1, 2, 6] (by simp; rfl) (by simp [hw]) (by simp) (by simp) (by simp; rfl) (by simp [htk]) (by simp)⟩
  refine WpC.exit ?_
  have hkn : k = l.length := by omega
  subst hkn
  try simp only [List.take_length]
  refine qR (by simp -implicitDefEqProofs <;> rfl) ?_
  refine WpC.ret ?_
  try simp only [blockQ, seqQ]
  refine retD_i (by simp -implicitDefEqProofs <;> rfl) (by simp -implicitDefEqProofs <;> rfl) ?_
  simp -implicitDefEqProofs
end Go.Proofs.YtjlamhilnkadcaaDoor.Pay
