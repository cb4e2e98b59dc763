/- Equal parts. No statement of the seed is proved here. -/
import Derived.Test.YtfbpcjkhgiickaaSpN
namespace Go.Proofs.Ytfbpcjkhgiickaa.Pay
open Go Go.RowKit
set_option linter.unusedVariables false
set_option linter.unusedSimpArgs false
set_option linter.unusedSectionVars false

/-- A row of one's own, cut at n, is a cut inside it. -/
theorem Gh.slSo {s : St} {t id n e k : Nat} {xs : List D} (hx : get s.env t = some (.sl id n)) (hS : s.S[id]? = some (.arr e k xs)) (hn : n ≤ xs.length) : Gh s { s with env := (t, .so id k 0 n) :: s.env } := Gh.slot hx fun w I L a v hs hv => by
  simp only [VRel] at hv ⊢
  obtain ⟨l, hd, c, hl, hh, rfl⟩ := hv
  have hcap := sl_cap hs hS hl hh
  refine ⟨l, hd, c, hl, rfl, by omega, ?_⟩
  by_cases h0 : n = 0
  · exact .inl h0
  · right
    obtain ⟨b, hb, hb2⟩ := hcap.2 (by omega)
    rcases hs.obs _ _ _ hS hl with ⟨base, cp, vs, rfl, hown, hr⟩ | ⟨hd', rfl, rfl⟩
    · cases hh
      cases hb
      exact ⟨b, _, rfl, by simp [Lay.head], by omega⟩
    · simp at hn; omega

theorem mulB_ok (x y : Nat) (hx : x < 18446744073709551616) (hy : y < 18446744073709551616) :
    Gives Try.prog 35 [.d (.int .u64 x), .d (.int .u64 y)] (.tup [.d (.int .u64 ((x * y / 18446744073709551616 : Nat) : Int)), .d (.int .u64 ((x * y % 18446744073709551616 : Nat) : Int))]) := by
  have hm := mul64_ok x y hx hy
  obtain ⟨h, hh⟩ : ∃ h, x * y / 18446744073709551616 = h := ⟨_, rfl⟩
  obtain ⟨l, hl⟩ : ∃ h, x * y % 18446744073709551616 = h := ⟨_, rfl⟩
  rw [hh, hl] at hm ⊢
  refine Gives.enter tabOk Try.func35 rfl (by show 2 ≤ 30; decide) ?_
  simp only [Try.f35]
  refine WpC.seq (WpC.ops tabOk (r := []) (by simp -implicitDefEqProofs <;> rfl) rfl ?_)
  refine WpC.seq ?_
  refine WpC.condF (by simp -implicitDefEqProofs <;> rfl) ?_
  refine WpC.skip ?_
  refine WpC.seq ?_
  refine WpC.region ?_
  refine WpO.run tabOk 2 (by simp -implicitDefEqProofs <;> first | exact ⟨rfl, rfl⟩ | rfl) ?_
  refine WpO.data (by simp) rfl (by simp -implicitDefEqProofs <;> rfl) (by simp -implicitDefEqProofs <;> rfl) (by simp -implicitDefEqProofs <;> rfl) call_29 (by simp) (hm) (by rfl) (by simp -implicitDefEqProofs <;> rfl) ?_
  refine WpO.run tabOk 5 (by simp -implicitDefEqProofs <;> first | exact ⟨rfl, rfl⟩ | rfl) ?_
  refine WpO.nil ?_
  refine WpC.seq (WpC.ops tabOk (r := []) (by simp -implicitDefEqProofs <;> rfl) rfl ?_)
  refine WpC.ret ?_
  try simp only [blockQ, seqQ]
  refine retD_i (by simp -implicitDefEqProofs <;> rfl) (by simp -implicitDefEqProofs <;> rfl) ?_
  simp -implicitDefEqProofs

theorem rep_step {n c q : Nat} (hq : min n (c - n) = q) (hnc : n ≤ c) : (rowF (pk (fun _ => 1) n) c).take n ++ ((rowF (pk (fun _ => 1) n) c).take q ++ (rowF (pk (fun _ => 1) n) c).drop (n + q)) = rowF (pk (fun _ => 1) (n + q)) c := by
  apply List.ext_getElem?
  intro i
  by_cases hi : i < c
  · rw [rowF_get hi]
    by_cases h1 : i < n
    · rw [List.getElem?_append_left (by simp; omega), List.getElem?_take_of_lt h1, rowF_get hi]
      simp only [pk]; rw [if_pos h1, if_pos (by omega)]
    · rw [List.getElem?_append_right (by simp; omega)]
      simp only [List.length_take, rowF_len]
      by_cases h2 : i < n + q
      · rw [List.getElem?_append_left (by simp; omega), List.getElem?_take_of_lt (by omega), rowF_get (by omega)]
        simp only [pk]; rw [if_pos (by omega), if_pos h2]
      · rw [List.getElem?_append_right (by simp; omega)]
        simp only [List.length_take, rowF_len, List.getElem?_drop]
        rw [show n + q + (i - min n c - min q c) = i from by omega, rowF_get hi]
        simp only [pk]; rw [if_neg h1, if_neg h2]
  · rw [List.getElem?_eq_none (by simp; omega), List.getElem?_eq_none (by simp; omega)]

theorem rep_step2 {n c q : Nat} (hq : min n (c - n) = q) (hnc : n ≤ c) : (rowF (pk (fun _ => 1) n) c).take n ++ (((rowF (pk (fun _ => 1) n) c).take n).take q ++ (rowF (pk (fun _ => 1) n) c).drop (n + q)) = rowF (pk (fun _ => 1) (n + q)) c := by
  rw [List.take_take, show min q n = q from by omega]
  exact rep_step hq hnc
theorem rep_first {c : Nat} (h : 1 ≤ c) : dI 1 :: (rowF (pk (fun _ => 1) 0) c).tail = rowF (pk (fun _ => 1) 1) c := by
  apply List.ext_getElem?
  intro i
  cases i with
  | zero => rw [rowF_get (by omega)]; rfl
  | succ i =>
    rw [List.getElem?_cons_succ, List.getElem?_tail]
    by_cases hi : i + 1 < c
    · rw [rowF_get hi, rowF_get hi]; simp [pk]
    · rw [List.getElem?_eq_none (by simp; omega), List.getElem?_eq_none (by simp; omega)]
set_option maxHeartbeats 4000000 in
theorem repeat_ok (c : Nat) (h1 : 1 ≤ c) (h2 : c ≤ 60) : WpF Try.prog 22 [.d (.list 1 [dI 1]), .d (dI c)] [] fun r S => r = .sl 0 c ∧ S = [.arr 3 1 (rowF (fun _ => 1) c)] := by
  have hm := mulB_ok 1 c (by omega) (by omega)
  have hm1 : 1 * c / 18446744073709551616 = 0 := by omega
  have hm2 : 1 * c % 18446744073709551616 = c := by omega
  rw [hm1, hm2] at hm
  have w1 : IntKind.u64.wrap (1 : Int) = 1 := by decide
  have w2 : IntKind.u64.wrap (c : Int) = c := wrapU (by omega) (by omega)
  have w3 : IntKind.i64.wrap (c : Int) = c := wrapI (by omega) (by omega)
  have z1 : ¬ (9223372036854775807 : Int) < c := by omega
  have z2 : c ≤ 8589934592 := by omega
  have z3 : (c : Int) ≤ 8589934592 := by omega
  have hz9 := rep_first h1
  have z4 : min 1 c = 1 := by omega
  have hz := pk_zero (fun _ => 1) c
  refine WpF.row ?_ 0
  refine WpF.enter tabOk Try.func22 rfl (by show 2 ≤ 48; decide) ?_
  simp only [Try.f22]
  refine WpC.seq (WpC.ops tabOk (r := []) (by simp -implicitDefEqProofs [w1, w2, w3, z1, z2, z3, hz] <;> rfl) rfl ?_)
  refine WpC.seq ?_
  refine WpC.seq (WpC.ops tabOk (r := []) (by simp -implicitDefEqProofs [w1, w2, w3, z1, z2, z3, hz] <;> rfl) rfl ?_)
  refine WpC.condF (by simp -implicitDefEqProofs [w1, w2, w3, z1, z2, z3, hz] <;> rfl) ?_
  refine WpC.skip ?_
  refine WpC.seq ?_
  refine WpC.region ?_
  refine WpO.run tabOk 5 (by simp -implicitDefEqProofs [w1, w2, w3, z1, z2, z3, hz] <;> first | exact ⟨rfl, rfl⟩ | rfl) ?_
  refine WpO.data (by simp) rfl (by simp -implicitDefEqProofs [w1, w2, w3, z1, z2, z3, hz] <;> rfl) (by simp -implicitDefEqProofs [w1, w2, w3, z1, z2, z3, hz] <;> rfl) (by simp -implicitDefEqProofs [w1, w2, w3, z1, z2, z3, hz] <;> rfl) call_35 (by simp) (hm) (by rfl) (by simp -implicitDefEqProofs [w1, w2, w3, z1, z2, z3, hz] <;> rfl) ?_
  refine WpO.run tabOk 5 (by simp -implicitDefEqProofs [w1, w2, w3, z1, z2, z3, hz] <;> first | exact ⟨rfl, rfl⟩ | rfl) ?_
  refine WpO.nil ?_
  refine WpC.seq ?_
  refine WpC.seq ?_
  refine WpC.val 26 (.d (.bool (false))) ?_ ?_
  · refine WpC.region ?_
    refine WpO.run tabOk 3 (by simp -implicitDefEqProofs [w1, w2, w3, z1, z2, z3, hz] <;> first | exact ⟨rfl, rfl⟩ | rfl) ?_
    refine WpO.splitB 23 (by simp -implicitDefEqProofs [w1, w2, w3, z1, z2, z3, hz] <;> rfl) (by rfl) (fun g23 => ?_) (fun g23 => ?_)
    · try (exfalso; revert g23; simp; done)
      all_goals
        have g23' := g23; first | simp only [dT, dF] at g23' | try simp at g23'
        refine WpO.run tabOk 3 (by simp -implicitDefEqProofs [w1, w2, w3, z1, z2, z3, hz, g23] <;> first | exact ⟨rfl, rfl⟩ | rfl) ?_
        refine WpO.nil ?_
        refine ⟨rfl, Gh.only 26 7 ?_ (by first | rfl | simp -implicitDefEqProofs [w1, w2, w3, z1, z2, z3, hz, g23]) (by rfl)⟩
        simp -implicitDefEqProofs [w1, w2, w3, z1, z2, z3, hz, g23, g23']
    · try (exfalso; revert g23; simp; done)
      all_goals
        have g23' := g23; first | simp only [dT, dF] at g23' | try simp at g23'
        refine WpO.run tabOk 3 (by simp -implicitDefEqProofs [w1, w2, w3, z1, z2, z3, hz, g23] <;> first | exact ⟨rfl, rfl⟩ | rfl) ?_
        refine WpO.nil ?_
        refine ⟨rfl, Gh.only 26 7 ?_ (by first | rfl | simp -implicitDefEqProofs [w1, w2, w3, z1, z2, z3, hz, g23]) (by rfl)⟩
        simp -implicitDefEqProofs [w1, w2, w3, z1, z2, z3, hz, g23, g23']
  refine WpC.condF (by simp -implicitDefEqProofs [w1, w2, w3, z1, z2, z3, hz] <;> rfl) ?_
  refine WpC.skip ?_
  refine WpC.seq (WpC.ops tabOk (r := []) (by simp -implicitDefEqProofs [w1, w2, w3, z1, z2, z3, hz] <;> rfl) rfl ?_)
  refine WpC.seq ?_
  refine WpC.region ?_
  refine WpO.run tabOk 1 (by simp -implicitDefEqProofs <;> first | exact ⟨rfl, rfl⟩ | rfl) ?_
  refine WpO.gh (Gh.slSo (t := 31) (id := 0) (n := c) (e := 3) (k := 1) (xs := rowF (pk (fun _ => 1) 0) c) (by simp) (by simp) (by simp)) ?_
  refine WpO.run tabOk 3 (by simp -implicitDefEqProofs [z4] <;> first | exact ⟨rfl, rfl⟩ | rfl) ?_
  refine WpO.nil ?_
  refine WpC.seq ?_
  refine WpC.block ?_
  refine WpC.loopM [7] [8] (fun x => c - x) (1 : Nat) (fun x => [(8, .d (dI (x : Nat)))]) (fun x => [.arr 3 1 (rowF (pk (fun _ => 1) x) c)]) (fun x => 1 ≤ x ∧ x ≤ c) (by simp -implicitDefEqProofs [w1, w2, w3, z1, z2, z3, hz] <;> rfl) (Gh.cut' [8, 7] 1 (by simp) (by simp [hz9]) rfl (by simp) (by simp) (by simp)) (⟨by simp, h1⟩) ?_
  rintro x hi
  simp only [List.cons_append, List.nil_append]
  refine WpC.seq ?_
  refine WpC.seq (WpC.ops tabOk (r := []) (by simp -implicitDefEqProofs [w1, w2, w3, z1, z2, z3, hz] <;> rfl) rfl ?_)
  refine WpC.condR (by simp -implicitDefEqProofs [w1, w2, w3, z1, z2, z3, hz] <;> rfl) (by rfl) (fun c37 => ?_) (fun c37 => ?_)
  · have c37' := c37; first | simp only [dT, dF] at c37' | try simp at c37'
    have hxc : x < c := by simpa using c37
    obtain ⟨q, hq⟩ : ∃ q, min x (c - x) = q := ⟨_, rfl⟩
    have hq2 : min (c - x) x = q := by omega
    have hstp := rep_step2 hq hi.2
    have hqx : q ≤ x := by omega
    have hxc2 : x ≤ c := hi.2
    have hwq : IntKind.i64.wrap ((x : Int) + q) = ((x + q : Nat) : Int) := by rw [wrapI (by omega) (by omega)]; omega
    obtain ⟨A, hA⟩ : ∃ A, pk (fun _ => (1 : Int)) x = A := ⟨_, rfl⟩
    rw [hA] at hstp
    refine WpC.skip ?_
    refine WpC.block ?_
    refine WpC.drawn tabOk (by kernel_rfl) 0 (by simp) ?_
    refine DrO.run (fz := []) 3 (by simp -implicitDefEqProofs [w1, w2, w3, z1, z2, z3, hz, c37, hq, hq2, hwq, hxc2, hA, hqx] <;> first | exact ⟨rfl, rfl, rfl, rfl⟩ | rfl) ?_
    refine DrO.run (fz := []) 3 (by simp -implicitDefEqProofs [w1, w2, w3, z1, z2, z3, hz, c37, hq, hq2, hwq, hxc2, hA, hqx] <;> first | exact ⟨rfl, rfl, rfl, rfl⟩ | rfl) ?_
    refine DrO.run (fz := []) 3 (by simp -implicitDefEqProofs [w1, w2, w3, z1, z2, z3, hz, c37, hq, hq2, hwq, hxc2, hA, hqx] <;> first | exact ⟨rfl, rfl, rfl, rfl⟩ | rfl) ?_
    refine DrO.run (fz := []) 1 (by simp -implicitDefEqProofs [w1, w2, w3, z1, z2, z3, hz, c37, hq, hq2, hwq, hxc2, hA, hqx] <;> first | exact ⟨rfl, rfl, rfl, rfl⟩ | rfl) ?_
    refine DrO.nil ⟨by kernel_rfl, ?_⟩
    exact ⟨x + q, ⟨by omega, by omega⟩, by omega, Gh.cut' [8, 7] 1 (by simp -implicitDefEqProofs [w1, w2, w3, z1, z2, z3, hz, c37, hq, hq2, hwq, hxc2, hA, hqx, c37', hstp]) (by simp -implicitDefEqProofs [w1, w2, w3, z1, z2, z3, hz, c37, hq, hq2, hwq, hxc2, hA, hqx, c37', hstp]) rfl (by simp) (by simp) (by simp)⟩
  · have c37' := c37; first | simp only [dT, dF] at c37' | try simp at c37'
    refine WpC.exit ?_
    have hxc : x = c := by simp at c37; omega
    subst hxc
    have hall := pk_all (fun _ => 1) x
    refine WpC.seq (WpC.ops tabOk (r := []) (by simp -implicitDefEqProofs [w1, w2, w3, z1, z2, z3, hz, c37, hall] <;> rfl) rfl ?_)
    refine WpC.ret ?_
    simp [hall]

theorem rep_map (c : Nat) : rowF (fun _ => 1) c = (List.replicate c (1 : Int)).map dI := by
  apply List.ext_getElem?
  intro i
  by_cases hi : i < c
  · rw [rowF_get hi, List.getElem?_map, List.getElem?_replicate, if_pos hi]; rfl
  · rw [List.getElem?_eq_none (by simp; omega), List.getElem?_eq_none (by simp; omega)]
def evenE (T n : Int) : Int := if n < 1 then 1 else if 60 < n then 9 else spE T (List.replicate n.toNat 1)
def evenR (T n : Int) : List D := if n < 1 then [] else if 60 < n then [] else spR T (List.replicate n.toNat 1)
theorem even_ok (T n : Int) (hT : in64 T) : Gives Try.prog 10 [.d (dI T), .d (dI n)] (.tup [.d (.list 1 (evenR T n)), .d (dI (evenE T n))]) := by
  refine Gives.enter tabOk Try.func10 rfl (by show 2 ≤ 19; decide) ?_
  simp only [Try.f10]
  refine WpC.seq (WpC.ops tabOk (r := []) (by simp -implicitDefEqProofs <;> rfl) rfl ?_)
  refine WpC.seq ?_
  refine WpC.block ?_
  refine WpC.seq (WpC.ops tabOk (r := []) (by simp -implicitDefEqProofs <;> rfl) rfl ?_)
  refine WpC.condD (n < 1) (by simp -implicitDefEqProofs) (fun d6 => ?_) (fun d6 => ?_)
  · refine WpC.seq (WpC.ops tabOk (r := []) (by simp -implicitDefEqProofs [d6] <;> rfl) rfl ?_)
    refine WpC.ret ?_
    try simp only [blockQ, seqQ]
    refine retD_i (by simp -implicitDefEqProofs [d6] <;> rfl) (by simp -implicitDefEqProofs [d6] <;> rfl) ?_
    simp [evenE, evenR, d6]
  · refine WpC.seq (WpC.ops tabOk (r := []) (by simp -implicitDefEqProofs [d6] <;> rfl) rfl ?_)
    refine WpC.condD (60 < n) (by simp -implicitDefEqProofs [d6]) (fun d9 => ?_) (fun d9 => ?_)
    · refine WpC.seq (WpC.ops tabOk (r := []) (by simp -implicitDefEqProofs [d6, d9] <;> rfl) rfl ?_)
      refine WpC.ret ?_
      try simp only [blockQ, seqQ]
      refine retD_i (by simp -implicitDefEqProofs [d6, d9] <;> rfl) (by simp -implicitDefEqProofs [d6, d9] <;> rfl) ?_
      simp [evenE, evenR, d6, d9]
    · obtain ⟨m, hm⟩ : ∃ m : Nat, n = m := ⟨n.toNat, by omega⟩
      have hre := repeat_ok m (by omega) (by omega)
      have hsp := split_ok T (List.replicate m 1) hT (fun x hx => by rw [(List.mem_replicate.1 hx).2]; exact ⟨by decide, by decide⟩) (by simp; omega)
      rw [← rep_map] at hsp
      subst hm
      refine WpC.skip ?_
      refine WpC.seq ?_
      refine WpC.region ?_
      refine WpO.run tabOk 3 (by simp -implicitDefEqProofs [d6, d9] <;> first | exact ⟨rfl, rfl⟩ | rfl) ?_
      refine WpO.gh (Gh.frz [0]) ?_
      refine WpO.callP [] (by simp) rfl (by simp -implicitDefEqProofs <;> rfl) (by simp -implicitDefEqProofs <;> rfl) call_22 (by simp) (by simp) (by simp) (by simp -implicitDefEqProofs) (by simp; rfl) (by simp -implicitDefEqProofs) hre fun r S1 hr => ?_
      obtain ⟨rfl, rfl⟩ := hr
      refine ⟨_, by simp -implicitDefEqProofs <;> rfl, ?_⟩
      refine WpO.gh (Gh.frz [1]) ?_
      refine WpO.data (by simp) rfl (by simp -implicitDefEqProofs <;> rfl) (by simp -implicitDefEqProofs <;> rfl) (by simp -implicitDefEqProofs <;> rfl) call_9 (by simp) hsp (by rfl) (by simp -implicitDefEqProofs <;> rfl) ?_
      refine WpO.run tabOk 4 (by simp -implicitDefEqProofs [d6, d9] <;> first | exact ⟨rfl, rfl⟩ | rfl) ?_
      refine WpO.nil ?_
      refine WpC.ret ?_
      try simp only [blockQ, seqQ]
      refine retD_i (by simp -implicitDefEqProofs [d6, d9] <;> rfl) (by simp -implicitDefEqProofs [d6, d9] <;> rfl) ?_
      simp [evenE, evenR, d6, d9]

end Go.Proofs.Ytfbpcjkhgiickaa.Pay
