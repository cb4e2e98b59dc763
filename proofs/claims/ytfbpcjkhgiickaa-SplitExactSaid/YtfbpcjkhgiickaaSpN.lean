/- split.Split. No statement of the seed is proved here. -/
import Derived.Test.YtfbpcjkhgiickaaSpM
namespace Go.Proofs.Ytfbpcjkhgiickaa.Pay
open Go Go.RowKit
set_option linter.unusedVariables false
set_option linter.unusedSimpArgs false
set_option linter.unusedSectionVars false

def sumN (f : Nat → Nat) (k : Nat) : Nat := ((List.range k).map f).sum
theorem sumN_step (f : Nat → Nat) (k : Nat) : sumN f (k + 1) = sumN f k + f k := by
  unfold sumN
  rw [List.range_succ]; simp
theorem sumN_le {f g : Nat → Nat} {n : Nat} (h : ∀ i, i < n → f i ≤ g i) : sumN f n ≤ sumN g n := by
  induction n with
  | zero => simp [sumN]
  | succ n ih =>
    rw [sumN_step, sumN_step]
    have := ih fun i hi => h i (by omega)
    have := h n (by omega)
    omega
theorem sumN_mono (f : Nat → Nat) {k n : Nat} (h : k ≤ n) : sumN f k ≤ sumN f n := by
  induction n with
  | zero => have : k = 0 := by omega
            subst this; exact Nat.le_refl _
  | succ n ih =>
    by_cases hk : k = n + 1
    · subst hk; exact Nat.le_refl _
    · rw [sumN_step]
      have := ih (by omega)
      omega
theorem sumN_div (t s : Nat) (w : Nat → Nat) : ∀ k, sumN (fun i => t * w i / s) k * s + sumN (fun i => t * w i % s) k = t * sumN w k
  | 0 => by simp [sumN]
  | k + 1 => by
    have ih := sumN_div t s w k
    rw [sumN_step, sumN_step, sumN_step, Nat.mul_add, Nat.add_mul]
    have := Nat.div_add_mod' (t * w k) s
    omega
theorem sumN_const (c : Nat) : ∀ k, sumN (fun _ => c) k = k * c
  | 0 => by simp [sumN]
  | k + 1 => by rw [sumN_step, sumN_const c k, Nat.add_mul]; omega
/-- What is left of the total is less than how many parts there are. -/
theorem left_le {t s n : Nat} {w : Nat → Nat} (hs : 0 < s) (hw : sumN w n = s) : sumN (fun i => t * w i / s) n ≤ t ∧ t - sumN (fun i => t * w i / s) n ≤ n := by
  have h := sumN_div t s w n
  rw [hw] at h
  have h1 : sumN (fun i => t * w i % s) n ≤ n * s := by
    rw [← sumN_const s n]
    exact sumN_le fun i hi => Nat.le_of_lt (Nat.mod_lt _ hs)
  generalize sumN (fun i => t * w i % s) n = r at h h1
  generalize sumN (fun i => t * w i / s) n = p at h
  have hp : p * s ≤ t * s := by omega
  have hpt : p ≤ t := Nat.le_of_mul_le_mul_right hp hs
  refine ⟨hpt, ?_⟩
  have : (t - p) * s ≤ n * s := by rw [Nat.sub_mul]; omega
  exact Nat.le_of_mul_le_mul_right this hs

def spW (ws : List Int) (i : Nat) : Int := (ws[i]?).getD 0
def spN (T : Int) (ws : List Int) (i : Nat) : Nat := T.toNat * (spW ws i).toNat / ws.sum.toNat
def spP (T : Int) (ws : List Int) (i : Nat) : Int := (spN T ws i : Nat)
def spL (T : Int) (ws : List Int) : Nat := T.toNat - sumN (spN T ws) ws.length
def splitF (T : Int) (ws : List Int) (i : Nat) : Int := spP T ws i + if ahead (cS T ws.sum (spW ws) (spP T ws)) ws.length i < spL T ws then 1 else 0
def spE (T : Int) (ws : List Int) : Int := if 60 < ws.length then 9 else if T < 0 ∨ (ws.any fun w => decide (w < 0)) = true then 1 else if sumB ws = false then 3 else if ws.sum = 0 then 4 else 0
def spR (T : Int) (ws : List Int) : List D := if spE T ws = 0 then rowF (splitF T ws) ws.length else []
theorem map_spW (ws : List Int) : ws.map dI = rowF (spW ws) ws.length := rowF_of ws
theorem sum_spW : ∀ {ws : List Int}, (∀ x ∈ ws, 0 ≤ x) → sumN (fun i => (spW ws i).toNat) ws.length = ws.sum.toNat := by
  intro ws h
  have e : (List.range ws.length).map (fun i => (spW ws i).toNat) = ws.map Int.toNat := by
    apply List.ext_getElem
    · simp
    · intro i h1 h2
      simp only [List.length_map, List.length_range] at h1
      simp [spW, List.getElem?_eq_getElem h1]
  unfold sumN
  rw [e]
  clear e
  induction ws with
  | nil => rfl
  | cons x l ih =>
    have h1 := h x (by simp)
    have h2 := sum_nonneg (l := l) fun y hy => h y (by simp [hy])
    rw [List.map_cons, List.sum_cons, List.sum_cons, ih fun y hy => h y (by simp [hy])]
    omega
def pk (f : Nat → Int) (k : Nat) : Nat → Int := fun i => if i < k then f i else 0
theorem pk_step (f : Nat → Int) (k : Nat) : upd (pk f k) k (f k) = pk f (k + 1) := by
  funext i
  unfold upd pk
  by_cases h : i = k
  · subst h; rw [if_pos rfl, if_pos (by omega)]
  · rw [if_neg h]
    by_cases h2 : i < k
    · rw [if_pos h2, if_pos (by omega)]
    · rw [if_neg h2, if_neg (by omega)]
theorem pk_all (f : Nat → Int) (n : Nat) : rowF (pk f n) n = rowF f n := rowF_ext fun i hi => if_pos hi
theorem pk_zero (f : Nat → Int) (n : Nat) : List.replicate n (D.int .i64 0) = rowF (pk f 0) n := by
  apply List.ext_getElem?
  intro i
  by_cases h : i < n
  · rw [rowF_get h, List.getElem?_replicate, if_pos h]
    simp [pk]
  · rw [List.getElem?_eq_none (by simp; omega), List.getElem?_eq_none (by simp; omega)]

set_option maxHeartbeats 40000000 in
theorem split_ok (T : Int) (ws : List Int) (hT : in64 T) (hws : ∀ x ∈ ws, in64 x) (hlen : ws.length ≤ 1000000) :
    Gives Try.prog 9 [.d (dI T), .d (.list 1 (ws.map dI))] (.tup [.d (.list 1 (spR T ws)), .d (dI (spE T ws))]) := by
  obtain ⟨n, hn⟩ : ∃ n, ws.length = n := ⟨_, rfl⟩
  have hco := containsI_ok ws (by omega)
  obtain ⟨nb, hnb⟩ : ∃ b, (ws.any fun w => decide (w < 0)) = b := ⟨_, rfl⟩
  rw [hnb] at hco
  refine Gives.enter tabOk Try.func9 rfl (by show 2 ≤ 95; decide) ?_
  simp only [Try.f9]
  refine WpC.seq (WpC.ops tabOk (r := []) (by simp -implicitDefEqProofs [hn] <;> rfl) rfl ?_)
  refine WpC.seq ?_
  refine WpC.block ?_
  refine WpC.seq (WpC.ops tabOk (r := []) (by simp -implicitDefEqProofs [hn] <;> rfl) rfl ?_)
  refine WpC.condD ((60 : Int) < n) (by simp -implicitDefEqProofs [hn]) (fun d16 => ?_) (fun d16 => ?_)
  · refine WpC.seq (WpC.ops tabOk (r := []) (by simp -implicitDefEqProofs [hn, d16] <;> rfl) rfl ?_)
    refine WpC.ret ?_
    try simp only [blockQ, seqQ]
    refine retD_i (by simp -implicitDefEqProofs [hn, d16] <;> rfl) (by simp -implicitDefEqProofs [hn, d16] <;> rfl) ?_
    have e : spE T ws = 9 := by unfold spE; rw [if_pos (by omega)]
    simp [e, spR]
  · have hn60 : n ≤ 60 := by omega
    have hn61 : n ≤ 8589934592 := by omega
    have hn62 : (n : Int) ≤ 8589934592 := by omega
    refine WpC.seq ?_
    refine WpC.val 20 (.d (.bool (decide (T < 0) || nb))) ?_ ?_
    · refine WpC.region ?_
      refine WpO.run tabOk 3 (by simp -implicitDefEqProofs [hn, d16, hn61, hn62] <;> first | exact ⟨rfl, rfl⟩ | rfl) ?_
      refine WpO.splitB 23 (by simp -implicitDefEqProofs [hn, d16, hn61, hn62] <;> rfl) (by rfl) (fun g23 => ?_) (fun g23 => ?_)
      · try (exfalso; revert g23; simp; done)
        all_goals
          have g23' := g23; first | simp only [dT, dF] at g23' | try simp at g23'
          refine WpO.run tabOk 4 (by simp -implicitDefEqProofs [hn, d16, hn61, hn62, g23] <;> first | exact ⟨rfl, rfl⟩ | rfl) ?_
          refine WpO.nil ?_
          refine ⟨rfl, Gh.only 20 8 ?_ (by first | rfl | simp -implicitDefEqProofs [hn, d16, hn61, hn62, g23]) (by rfl)⟩
          simp -implicitDefEqProofs [hn, d16, hn61, hn62, g23, g23']
      · try (exfalso; revert g23; simp; done)
        all_goals
          have g23' := g23; first | simp only [dT, dF] at g23' | try simp at g23'
          refine WpO.run tabOk 1 (by simp -implicitDefEqProofs [hn, d16, hn61, hn62, g23] <;> first | exact ⟨rfl, rfl⟩ | rfl) ?_
          refine WpO.data (by simp) rfl (by simp -implicitDefEqProofs [hn, d16, hn61, hn62, g23] <;> rfl) (by simp -implicitDefEqProofs [hn, d16, hn61, hn62, g23] <;> rfl) (by simp -implicitDefEqProofs [hn, d16, hn61, hn62, g23] <;> rfl) call_14 (by simp) (hco) (by rfl) (by simp -implicitDefEqProofs [hn, d16, hn61, hn62, g23] <;> rfl) ?_
          refine WpO.run tabOk 2 (by simp -implicitDefEqProofs [hn, d16, hn61, hn62, g23] <;> first | exact ⟨rfl, rfl⟩ | rfl) ?_
          refine WpO.nil ?_
          refine ⟨rfl, Gh.only 20 8 ?_ (by first | rfl | simp -implicitDefEqProofs [hn, d16, hn61, hn62, g23]) (by rfl)⟩
          simp -implicitDefEqProofs [hn, d16, hn61, hn62, g23, g23']
    refine WpC.condD (T < 0 ∨ nb = true) (by simp -implicitDefEqProofs [hn, d16, hn61, hn62]) (fun d20 => ?_) (fun d20 => ?_)
    · refine WpC.seq (WpC.ops tabOk (r := []) (by simp -implicitDefEqProofs [hn, d16, hn61, hn62, d20] <;> rfl) rfl ?_)
      refine WpC.ret ?_
      try simp only [blockQ, seqQ]
      refine retD_i (by simp -implicitDefEqProofs [hn, d16, hn61, hn62, d20] <;> rfl) (by simp -implicitDefEqProofs [hn, d16, hn61, hn62, d20] <;> rfl) ?_
      have e : spE T ws = 1 := by unfold spE; rw [if_neg (by omega), hnb, if_pos d20]
      simp [e, spR]
    · have hT0 : 0 ≤ T := by omega
      have hw0 : ∀ x ∈ ws, 0 ≤ x := fun x hx => by
        have hf : nb = false := by cases nb <;> simp_all
        rw [hf, List.any_eq_false] at hnb
        have := hnb x hx
        simp at this; omega
      have hsm := sumM_ok ws (fun x hx => ⟨hw0 x hx, (hws x hx).2⟩) (by omega)
      obtain ⟨sb, hsb⟩ : ∃ b, sumB ws = b := ⟨_, rfl⟩
      rw [hsb] at hsm
      refine WpC.skip ?_
      refine WpC.seq ?_
      refine WpC.region ?_
      refine WpO.run tabOk 1 (by simp -implicitDefEqProofs [hn, d16, hn61, hn62, d20] <;> first | exact ⟨rfl, rfl⟩ | rfl) ?_
      refine WpO.data (by simp) rfl (by simp -implicitDefEqProofs [hn, d16, hn61, hn62, d20] <;> rfl) (by simp -implicitDefEqProofs [hn, d16, hn61, hn62, d20] <;> rfl) (by simp -implicitDefEqProofs [hn, d16, hn61, hn62, d20] <;> rfl) call_16 (by simp) (hsm) (by rfl) (by simp -implicitDefEqProofs [hn, d16, hn61, hn62, d20] <;> rfl) ?_
      refine WpO.run tabOk 6 (by simp -implicitDefEqProofs [hn, d16, hn61, hn62, d20] <;> first | exact ⟨rfl, rfl⟩ | rfl) ?_
      refine WpO.nil ?_
      refine WpC.seq ?_
      refine WpC.block ?_
      refine WpC.seq (WpC.ops tabOk (r := []) (by simp -implicitDefEqProofs [hn, d16, hn61, hn62, d20] <;> rfl) rfl ?_)
      refine WpC.condD (sb = false) (by simp -implicitDefEqProofs [hn, d16, hn61, hn62, d20]) (fun d32 => ?_) (fun d32 => ?_)
      · have hsf : sb = false := d32
        refine WpC.seq (WpC.ops tabOk (r := []) (by simp -implicitDefEqProofs [hn, d16, hn61, hn62, d20, d32, hsf] <;> rfl) rfl ?_)
        refine WpC.ret ?_
        try simp only [blockQ, seqQ]
        refine retD_i (by simp -implicitDefEqProofs [hn, d16, hn61, hn62, d20, d32, hsf] <;> rfl) (by simp -implicitDefEqProofs [hn, d16, hn61, hn62, d20, d32, hsf] <;> rfl) ?_
        have e : spE T ws = 3 := by unfold spE; rw [if_neg (by omega), hnb, if_neg d20, hsb, if_pos hsf]
        simp [e, spR, hsf]
      · have hst : sb = true := by cases sb <;> simp_all
        subst hst
        refine WpC.seq (WpC.ops tabOk (r := []) (by simp -implicitDefEqProofs [hn, d16, hn61, hn62, d20, d32] <;> rfl) rfl ?_)
        refine WpC.condD (ws.sum = 0) (by simp -implicitDefEqProofs [hn, d16, hn61, hn62, d20, d32]) (fun d36 => ?_) (fun d36 => ?_)
        · refine WpC.seq (WpC.ops tabOk (r := []) (by simp -implicitDefEqProofs [hn, d16, hn61, hn62, d20, d32, d36] <;> rfl) rfl ?_)
          refine WpC.ret ?_
          try simp only [blockQ, seqQ]
          refine retD_i (by simp -implicitDefEqProofs [hn, d16, hn61, hn62, d20, d32, d36] <;> rfl) (by simp -implicitDefEqProofs [hn, d16, hn61, hn62, d20, d32, d36] <;> rfl) ?_
          have e : spE T ws = 4 := by unfold spE; rw [if_neg (by omega), hnb, if_neg d20, hsb, if_neg (by decide), if_pos d36]
          simp [e, spR]
        · have e0 : spE T ws = 0 := by unfold spE; rw [if_neg (by omega), hnb, if_neg d20, hsb, if_neg (by decide), if_neg d36]
          have hsum0 := sum_nonneg hw0
          have hsumM : ws.sum ≤ 9223372036854775807 := of_decide_eq_true hsb
          obtain ⟨t, ht⟩ : ∃ t : Nat, T = t := ⟨T.toNat, by omega⟩
          obtain ⟨s, hs⟩ : ∃ s : Nat, ws.sum = s := ⟨ws.sum.toNat, by omega⟩
          have hs0 : 0 < s := by omega
          obtain ⟨wf, hwf⟩ : ∃ wf, spW ws = wf := ⟨_, rfl⟩
          have hrow : ws.map dI = rowF wf n := by rw [map_spW, hn, hwf]
          have hwn : ∀ i, i < n → inN (wf i) := fun i hi => by
            have : wf i = ws[i]'(by omega) := by rw [← hwf]; unfold spW; rw [List.getElem?_eq_getElem (by omega)]; rfl
            rw [this]
            exact ⟨hw0 _ (List.getElem_mem _), (hws _ (List.getElem_mem _)).2⟩
          have hsumw : sumN (fun i => (wf i).toNat) n = s := by rw [← hwf, ← hn, sum_spW hw0, hs]; rfl
          obtain ⟨pn, hpn⟩ : ∃ pn : Nat → Nat, (fun i => t * (wf i).toNat / s) = pn := ⟨_, rfl⟩
          have hpne : spN T ws = pn := by
            funext i; rw [← hpn]; unfold spN; rw [hwf, ht, hs]; rfl
          obtain ⟨hl1, hl2⟩ := left_le (t := t) hs0 hsumw
          rw [hpn] at hl1 hl2
          have hpb : ∀ i, i < n → pn i ≤ t := fun i hi => by
            have h1 : pn i ≤ sumN pn (i + 1) := by rw [sumN_step]; omega
            have h2 := sumN_mono pn (show i + 1 ≤ n from hi)
            omega
          obtain ⟨pf, hpf⟩ : ∃ pf : Nat → Int, (fun i => ((pn i : Nat) : Int)) = pf := ⟨_, rfl⟩
          have hpfe : spP T ws = pf := by funext i; rw [← hpf]; unfold spP; rw [hpne]
          have hpi : ∀ i, pf i = pn i := fun i => by rw [← hpf]
          have hpin : ∀ i, i < n → inN (pf i) := fun i hi => by rw [hpi]; have := hpb i hi; unfold in64 at hT; exact ⟨by omega, by omega⟩
          obtain ⟨lft, hlft⟩ : ∃ l, t - sumN pn n = l := ⟨_, rfl⟩
          have hspL : spL T ws = lft := by unfold spL; rw [hpne, hn, ht]; exact hlft
          have hz1 : List.replicate n (D.int .i64 0) = rowF (pk pf 0) n := pk_zero pf n
          have hz2 : List.replicate n (D.int .i64 0) = rowF (pk (fun i => (i : Int)) 0) n := pk_zero _ n
          have hz3 : rowF (pk (fun i => (i : Int)) 0) n = rowF (pk pf 0) n := by rw [← hz1, ← hz2]
          have hz4 : sumN pn 0 = 0 := rfl
          have hcm := cS_cmp (t : Int) (s : Int) wf pf n
          have hTn : inN (t : Int) := by unfold in64 at hT; exact ⟨by omega, by omega⟩
          have hSn : inN (s : Int) := ⟨by omega, by omega⟩
          have hcc := fun x y hx hy => cS_ok (t : Int) (s : Int) wf pf n hTn hSn hwn hpin hn60 x y hx hy
          have hso := sortStable_ok (t : Int) (s : Int) (rowF wf n) (rowF pf n) hcm hcc (fun i => (i : Int)) n hn60 (fun i hi => by show (0 : Int) ≤ i ∧ (i : Int) < n; omega)
          subst ht
          refine WpC.skip ?_
          refine WpC.seq (WpC.ops tabOk (r := []) (by simp -implicitDefEqProofs [hn, d16, hn61, hn62, d20, d32, d36, hrow, hs, hz1, hz3, hz4] <;> rfl) rfl ?_)
          refine WpC.seq (WpC.ops tabOk (r := []) (by simp -implicitDefEqProofs [hn, d16, hn61, hn62, d20, d32, d36, hrow, hs, hz1, hz3, hz4] <;> rfl) rfl ?_)
          refine WpC.seq (WpC.ops tabOk (r := []) (by simp -implicitDefEqProofs [hn, d16, hn61, hn62, d20, d32, d36, hrow, hs, hz1, hz3, hz4] <;> rfl) rfl ?_)
          refine WpC.seq ?_
          refine WpC.seq (WpC.ops tabOk (r := []) (by simp -implicitDefEqProofs [hn, d16, hn61, hn62, d20, d32, d36, hrow, hs, hz1, hz3, hz4] <;> rfl) rfl ?_)
          refine WpC.block ?_
          refine WpC.loopK [2, 3, 6, 8, 9, 46, 47] [10, 48] (n) (() : Unit) (fun k _ => [(10, .d (dI ((t - sumN pn k : Nat) : Int))), (48, .d (.int .i64 k))]) (fun k _ => [.cells 3 [.d (dI t)], .cells 22 [.d (.list 1 (rowF wf n))], .cells 3 [.d (dI s)], .arr 3 1 (rowF (pk pf k) n), .arr 3 1 (rowF (pk (fun i => (i : Int)) k) n)]) (fun k _ => True) (by simp -implicitDefEqProofs [hn, d16, hn61, hn62, d20, d32, d36, hrow, hs, hz1, hz3, hz4] <;> rfl) (Gh.cut' [10, 48, 2, 3, 6, 8, 9, 46, 47] 5 (by simp -implicitDefEqProofs [hn, d16, hn61, hn62, d20, d32, d36, hrow, hs, hz1, hz3, hz4]) (by simp -implicitDefEqProofs [hn, d16, hn61, hn62, d20, d32, d36, hrow, hs, hz1, hz3, hz4]) rfl (by simp) (by simp) (by simp)) (by trivial) ?_
          rintro k ⟨⟩ hk hi
          simp only [List.cons_append, List.nil_append]
          refine WpC.seq (WpC.ops tabOk (r := []) (by simp -implicitDefEqProofs [hn, d16, hn61, hn62, d20, d32, d36, hrow, hs, hz1, hz3, hz4] <;> rfl) rfl ?_)
          refine WpC.seq (WpC.condD (k < n) (by simp -implicitDefEqProofs [hn, d16, hn61, hn62, d20, d32, d36, hrow, hs, hz1, hz3, hz4] <;> omega) (fun hlt => ?_) (fun hge => ?_))
          · refine WpC.skip ?_
            have hst1 := pk_step pf k
            have hst2 := pk_step (fun i => (i : Int)) k
            have hst3 := sumN_step pn k
            have hmo := sumN_mono pn (show k + 1 ≤ n from hlt)
            obtain ⟨w, hw⟩ : ∃ w : Nat, wf k = w := ⟨(wf k).toNat, by have := (hwn k hlt).1; omega⟩
            have hwk := hwn k hlt
            rw [hw] at hwk
            unfold inN at hwk
            have hws : w ≤ s := by
              have h1 : (wf k).toNat ≤ sumN (fun i => (wf i).toNat) (k + 1) := by rw [sumN_step]; omega
              have h2 := sumN_mono (fun i => (wf i).toNat) (show k + 1 ≤ n from hlt)
              rw [hsumw] at h2
              omega
            have hmd := mulDiv_ok t w s (by unfold in64 at hT; omega) hws hs0 (by omega)
            have hq : t * w / s = pn k := by rw [← hpn]; simp only [hw]; rfl
            rw [hq] at hmd
            obtain ⟨v, hv⟩ : ∃ v, pn k = v := ⟨_, rfl⟩
            have hpk := hpi k
            rw [hv] at hmd hst3 hpk
            rw [hpk] at hst1
            have hkw : IntKind.i64.wrap ((k : Int) + 1) = k + 1 := wrapI (by omega) (by omega)
            have hsub : IntKind.i64.wrap (((t - sumN pn k : Nat) : Int) - v) = ((t - sumN pn (k + 1) : Nat) : Int) := by unfold in64 at hT; rw [wrapI (by omega) (by omega)]; omega
            obtain ⟨A, hA⟩ : ∃ A, pk pf k = A := ⟨_, rfl⟩
            obtain ⟨B, hB⟩ : ∃ B, pk (fun i => (i : Int)) k = B := ⟨_, rfl⟩
            rw [hA] at hst1
            rw [hB] at hst2
            have hup : upd A k (v : Int) k = (v : Int) := if_pos rfl
            refine WpC.seq ?_
            refine WpC.block ?_
            refine WpC.seq (WpC.ops tabOk (r := []) (by simp -implicitDefEqProofs [hn, d16, hn61, hn62, d20, d32, d36, hrow, hs, hz1, hz3, hz4, hlt, hw, hkw, hsub, hA, hB, hup] <;> rfl) rfl ?_)
            refine WpC.seq ?_
            refine WpC.region ?_
            refine WpO.run tabOk 5 (by simp -implicitDefEqProofs [hn, d16, hn61, hn62, d20, d32, d36, hrow, hs, hz1, hz3, hz4, hlt, hw, hkw, hsub, hA, hB, hup] <;> first | exact ⟨rfl, rfl⟩ | rfl) ?_
            refine WpO.data (by simp) rfl (by simp -implicitDefEqProofs [hn, d16, hn61, hn62, d20, d32, d36, hrow, hs, hz1, hz3, hz4, hlt, hw, hkw, hsub, hA, hB, hup] <;> rfl) (by simp -implicitDefEqProofs [hn, d16, hn61, hn62, d20, d32, d36, hrow, hs, hz1, hz3, hz4, hlt, hw, hkw, hsub, hA, hB, hup] <;> rfl) (by simp -implicitDefEqProofs [hn, d16, hn61, hn62, d20, d32, d36, hrow, hs, hz1, hz3, hz4, hlt, hw, hkw, hsub, hA, hB, hup] <;> rfl) call_17 (by simp) (hmd) (by rfl) (by simp -implicitDefEqProofs [hn, d16, hn61, hn62, d20, d32, d36, hrow, hs, hz1, hz3, hz4, hlt, hw, hkw, hsub, hA, hB, hup] <;> rfl) ?_
            refine WpO.run tabOk 5 (by simp -implicitDefEqProofs [hn, d16, hn61, hn62, d20, d32, d36, hrow, hs, hz1, hz3, hz4, hlt, hw, hkw, hsub, hA, hB, hup] <;> first | exact ⟨rfl, rfl⟩ | rfl) ?_
            refine WpO.nil ?_
            refine WpC.seq (WpC.ops tabOk (r := []) (by simp -implicitDefEqProofs [hn, d16, hn61, hn62, d20, d32, d36, hrow, hs, hz1, hz3, hz4, hlt, hw, hkw, hsub, hA, hB, hup] <;> rfl) rfl ?_)
            refine WpC.ops tabOk (r := []) (by simp -implicitDefEqProofs [hn, d16, hn61, hn62, d20, d32, d36, hrow, hs, hz1, hz3, hz4, hlt, hw, hkw, hsub, hA, hB, hup] <;> rfl) rfl ?_
            refine WpC.ops tabOk (r := []) (by simp -implicitDefEqProofs [hn, d16, hn61, hn62, d20, d32, d36, hrow, hs, hz1, hz3, hz4, hlt, hw, hkw, hsub, hA, hB, hup] <;> rfl) rfl ?_
            exact ⟨hlt, (), trivial, Gh.cut' [10, 48, 2, 3, 6, 8, 9, 46, 47] 5 (by simp -implicitDefEqProofs [hn, d16, hn61, hn62, d20, d32, d36, hrow, hs, hz1, hz3, hz4, hlt, hw, hkw, hsub, hA, hB, hup, hst1, hst2, hst3]) (by simp -implicitDefEqProofs [hn, d16, hn61, hn62, d20, d32, d36, hrow, hs, hz1, hz3, hz4, hlt, hw, hkw, hsub, hA, hB, hup, hst1, hst2, hst3]) rfl (by simp) (by simp) (by simp)⟩
          · refine WpC.exit ?_
            have hkn : n = k := by omega
            subst hkn
            have hall1 := pk_all pf n
            have hall2 := pk_all (fun i => (i : Int)) n
            rw [hlft]
            refine WpC.seq ?_
            refine WpC.region ?_
            refine WpO.run tabOk 1 (by simp -implicitDefEqProofs [hn, d16, hn61, hn62, d20, d32, d36, hrow, hs, hz1, hz3, hz4, hall1, hall2] <;> first | exact ⟨rfl, rfl⟩ | rfl) ?_
            refine WpO.callP [3] (by simp) rfl (by simp -implicitDefEqProofs [hn, d16, hn61, hn62, d20, d32, d36, hrow, hs, hz1, hz3, hz4, hall1, hall2] <;> rfl) (by simp -implicitDefEqProofs [hn, d16, hn61, hn62, d20, d32, d36, hrow, hs, hz1, hz3, hz4, hall1, hall2] <;> rfl) call_18 (by simp) (by simp) (by simp) (by simp -implicitDefEqProofs [hn, d16, hn61, hn62, d20, d32, d36, hrow, hs, hz1, hz3, hz4, hall1, hall2]) (by simp; rfl) (by simp -implicitDefEqProofs [hn, d16, hn61, hn62, d20, d32, d36, hrow, hs, hz1, hz3, hz4, hall1, hall2]) ( cloneOwn_ok (rowF pf n) n (by simp) (by omega)) fun r S1 hr => ?_
            obtain ⟨rfl, rfl⟩ := hr
            refine ⟨_, by simp -implicitDefEqProofs [hn, d16, hn61, hn62, d20, d32, d36, hrow, hs, hz1, hz3, hz4, hall1, hall2] <;> rfl, ?_⟩
            refine WpO.run tabOk 2 (by simp -implicitDefEqProofs [hn, d16, hn61, hn62, d20, d32, d36, hrow, hs, hz1, hz3, hz4, hall1, hall2] <;> first | exact ⟨rfl, rfl⟩ | rfl) ?_
            refine WpO.nil ?_
            refine WpC.seq ?_
            refine WpC.region ?_
            refine WpO.run tabOk 2 (by simp -implicitDefEqProofs <;> first | exact ⟨rfl, rfl⟩ | rfl) ?_
            refine WpO.gh (Gh.frzO [0, 1, 2, 5, 6] [(77, .fn 20 [.dp [dI t], .dp [dI s], .dp [.list 1 (rowF wf n)], .dp [.list 1 (rowF pf n)]])] (fun p hp => ⟨.fn 20 [.ref 0 0, .ref 2 0, .ref 1 0, .ref 6 0], by simp at hp; subst hp; simp, by simp at hp; subst hp; simp [maskO]⟩)) ?_
            simp only [maskO]
            refine WpO.callP [4] (by simp) rfl (by simp -implicitDefEqProofs <;> rfl) (by simp -implicitDefEqProofs <;> rfl) call_19 (by simp) (by simp) (by simp) (by simp -implicitDefEqProofs) (by simp; rfl) (by simp -implicitDefEqProofs) hso fun r S1 hr => ?_
            obtain ⟨h, rfl, rfl, m1, t1⟩ := hr
            refine ⟨_, by simp -implicitDefEqProofs <;> rfl, ?_⟩
            refine WpO.nil ?_
            refine WpC.seq ?_
            have hlf1 : lft ≤ n := by omega
            have hlf2 : (lft : Int) ≤ n := by omega
            obtain ⟨hin, hinj, hrk, hsj⟩ := rank hcm m1 t1
            have hz5 : rowF pf n = rowF (incF pf h 0) n := rowF_ext fun i hi => by simp [incF]
            refine WpC.seq (WpC.ops tabOk (r := []) (by simp -implicitDefEqProofs [hn, d16, hn61, hn62, d20, d32, d36, hrow, hs, hz1, hz3, hz4, hall1, hall2, hlf1, hlf2] <;> rfl) rfl ?_)
            refine WpC.block ?_
            refine WpC.loopK [8, 81, 82] [83] (lft) (() : Unit) (fun k _ => [(83, .d (.int .i64 k))]) (fun k _ => [.gone, .gone, .gone, .arr 3 1 (rowF (incF pf h k) n), .arr 3 1 (rowF h n)]) (fun k _ => True) (by simp -implicitDefEqProofs [hn, d16, hn61, hn62, d20, d32, d36, hrow, hs, hz1, hz3, hz4, hall1, hall2, hlf1, hlf2] <;> rfl) (Gh.cut' [83, 8, 81, 82] 5 (by simp -implicitDefEqProofs [hlf1, hlf2]) (by simp -implicitDefEqProofs [hz5]) rfl (by simp) (by simp) (by simp)) (by trivial) ?_
            rintro k ⟨⟩ hk hi
            simp only [List.cons_append, List.nil_append]
            refine WpC.seq (WpC.ops tabOk (r := []) (by simp -implicitDefEqProofs [hn, d16, hn61, hn62, d20, d32, d36, hrow, hs, hz1, hz3, hz4, hall1, hall2, hlf1, hlf2] <;> rfl) rfl ?_)
            refine WpC.seq (WpC.condD (k < lft) (by simp -implicitDefEqProofs [hn, d16, hn61, hn62, d20, d32, d36, hrow, hs, hz1, hz3, hz4, hall1, hall2, hlf1, hlf2] <;> omega) (fun hlt => ?_) (fun hge => ?_))
            · refine WpC.skip ?_
              obtain ⟨hk0, hkn⟩ := hin k (by omega)
              obtain ⟨q, hq⟩ : ∃ q : Nat, h k = q := ⟨(h k).toNat, by omega⟩
              have hstep := incF_step pf (h := h) (k := k) hk0
              have hqn : q < n := by omega
              have hcnt : (List.range k).countP (fun p => decide (h p = (q : Int))) ≤ k := Nat.le_trans List.countP_le_length (by simp)
              have hval : incF pf h k q ≤ (pn q : Int) + k ∧ 0 ≤ incF pf h k q := by
                unfold incF; rw [hpi]; omega
              have hpq : pn q ≤ sumN pn n := by
                have h1 : pn q ≤ sumN pn (q + 1) := by rw [sumN_step]; omega
                have h2 := sumN_mono pn (show q + 1 ≤ n from hqn)
                omega
              have hkw : IntKind.i64.wrap ((k : Int) + 1) = k + 1 := wrapI (by omega) (by omega)
              have hwq : IntKind.i64.wrap (incF pf h k q + 1) = incF pf h k q + 1 := wrapI (by omega) (by unfold in64 at hT; omega)
              rw [hq, Int.toNat_natCast] at hstep
              obtain ⟨A, hA⟩ : ∃ A, incF pf h k = A := ⟨_, rfl⟩
              rw [hA] at hwq hstep
              have hkn2 : k < n := by omega
              refine WpC.seq ?_
              refine WpC.block ?_
              refine WpC.seq (WpC.ops tabOk (r := []) (by simp -implicitDefEqProofs [hn, d16, hn61, hn62, d20, d32, d36, hrow, hs, hz1, hz3, hz4, hall1, hall2, hlf1, hlf2, hlt, hq, hqn, hkw, hwq, hA, hkn2] <;> rfl) rfl ?_)
              refine WpC.ops tabOk (r := []) (by simp -implicitDefEqProofs [hn, d16, hn61, hn62, d20, d32, d36, hrow, hs, hz1, hz3, hz4, hall1, hall2, hlf1, hlf2, hlt, hq, hqn, hkw, hwq, hA, hkn2] <;> rfl) rfl ?_
              refine WpC.ops tabOk (r := []) (by simp -implicitDefEqProofs [hn, d16, hn61, hn62, d20, d32, d36, hrow, hs, hz1, hz3, hz4, hall1, hall2, hlf1, hlf2, hlt, hq, hqn, hkw, hwq, hA, hkn2] <;> rfl) rfl ?_
              exact ⟨hlt, (), trivial, Gh.cut' [83, 8, 81, 82] 5 (by simp -implicitDefEqProofs [hn, d16, hn61, hn62, d20, d32, d36, hrow, hs, hz1, hz3, hz4, hall1, hall2, hlf1, hlf2, hlt, hq, hqn, hkw, hwq, hA, hkn2, hstep]) (by simp -implicitDefEqProofs [hn, d16, hn61, hn62, d20, d32, d36, hrow, hs, hz1, hz3, hz4, hall1, hall2, hlf1, hlf2, hlt, hq, hqn, hkw, hwq, hA, hkn2, hstep]) rfl (by simp) (by simp) (by simp)⟩
            · refine WpC.exit ?_
              have hkl : lft = k := by omega
              subst hkl
              have hfin : rowF (incF pf h lft) n = rowF (splitF (t : Int) ws) n := rowF_ext fun i hi => by
                rw [incF_end pf hcm m1 t1 hlf1 hi]
                unfold splitF
                rw [hpfe, hwf, hs, hn, hspL]
              refine WpC.seq (WpC.ops tabOk (r := []) (by simp -implicitDefEqProofs [hn, d16, hn61, hn62, d20, d32, d36, hrow, hs, hz1, hz3, hz4, hall1, hall2, hlf1, hlf2] <;> rfl) rfl ?_)
              refine WpC.ret ?_
              try simp only [blockQ, seqQ]
              refine retD_i (by simp -implicitDefEqProofs [hn, d16, hn61, hn62, d20, d32, d36, hrow, hs, hz1, hz3, hz4, hall1, hall2, hlf1, hlf2] <;> rfl) (by simp -implicitDefEqProofs [hn, d16, hn61, hn62, d20, d32, d36, hrow, hs, hz1, hz3, hz4, hall1, hall2, hlf1, hlf2] <;> rfl) ?_
              simp [e0, spR, hn, hfin]
end Go.Proofs.Ytfbpcjkhgiickaa.Pay
