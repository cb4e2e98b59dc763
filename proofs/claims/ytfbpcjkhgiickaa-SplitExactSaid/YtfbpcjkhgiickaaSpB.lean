/- Sorting by insertion. No statement of the seed is proved here. -/
import Derived.Test.YtfbpcjkhgiickaaSpA
namespace Go.Proofs.Ytfbpcjkhgiickaa.Pay
open Go Go.RowKit
set_option linter.unusedVariables false
set_option linter.unusedSimpArgs false

/-- A comparison that orders the numbers that are ok. -/
structure Cmp (c : Int → Int → Int) (ok : Int → Prop) : Prop where
  asym : ∀ x y, ok x → ok y → c x y < 0 → ¬ c y x < 0
  tr : ∀ x y z, ok x → ok y → ok z → c x y < 0 → c y z < 0 → c x z < 0
  tot : ∀ x y, ok x → ok y → x ≠ y → c x y < 0 ∨ c y x < 0
section
variable {c : Int → Int → Int} {ok : Int → Prop}
theorem Cmp.le (h : Cmp c ok) {x y z : Int} (hx : ok x) (hy : ok y) (hz : ok z) (h1 : ¬ c y x < 0) (h2 : ¬ c z y < 0) : ¬ c z x < 0 := fun h3 => by
  by_cases e : x = y
  · subst e; exact h2 h3
  · have := (h.tot x y hx hy e).resolve_right h1
    exact h2 (h.tr z x y hz hx hy h3 this)
def Srtd (c : Int → Int → Int) (g : Nat → Int) (a b : Nat) : Prop := ∀ i j, a ≤ i → i < j → j < b → ¬ c (g j) (g i) < 0
def AllOk (ok : Int → Prop) (g : Nat → Int) (n : Nat) : Prop := ∀ i, i < n → ok (g i)
theorem Mv.okk {a b n : Nat} {g h : Nat → Int} (x : Mv a b g h) (hb : b ≤ n) (hg : AllOk ok g n) : AllOk ok h n := fun i hi => by
  by_cases hab : a ≤ i ∧ i < b
  · obtain ⟨j, j1, j2, e⟩ := x.src i hab.1 hab.2
    rw [e]; exact hg j (by omega)
  · rw [x.out i (by omega)]; exact hg i hi

structure InsI (c : Int → Int → Int) (h : Nat → Int) (a i j : Nat) : Prop where
  A : ∀ p q, a ≤ p → p < q → q ≤ i → p ≠ j → q ≠ j → ¬ c (h q) (h p) < 0
  B : ∀ q, j < q → q ≤ i → ¬ c (h q) (h j) < 0
theorem ins_begin {h : Nat → Int} {a i : Nat} (hs : Srtd c h a i) : InsI c h a i i := ⟨fun p q h1 h2 h3 h4 h5 => hs p q h1 h2 (by omega), fun q h1 h2 => by omega⟩
theorem ins_step (hc : Cmp c ok) {h : Nat → Int} {n a i j q : Nat} (hq : j - 1 = q) (hok : AllOk ok h n) (hj : j < n) (hi : InsI c h a i j) (haj : a < j) (hji : j ≤ i) (hlt : c (h j) (h q) < 0) : InsI c (sw h j q) a i q := by
  have hqj : q + 1 = j := by omega
  refine ⟨fun p r h1 h2 h3 h4 h5 => ?_, fun r h1 h2 => ?_⟩
  · rw [sw_at, sw_at, if_neg h5, if_neg h4]
    by_cases e1 : r = j
    · rw [if_pos e1, if_neg (by omega)]
      exact hi.A p q h1 (by omega) (by omega) (by omega) (by omega)
    · rw [if_neg e1]
      by_cases e2 : p = j
      · rw [if_pos e2]
        exact hi.A q r (by omega) (by omega) h3 (by omega) e1
      · rw [if_neg e2]
        exact hi.A p r h1 h2 h3 e2 e1
  · rw [sw_at, sw_at, if_neg (by omega), if_pos rfl]
    by_cases e1 : r = j
    · rw [if_pos e1]
      exact hc.asym _ _ (hok j hj) (hok q (by omega)) hlt
    · rw [if_neg e1]
      exact hi.B r (by omega) h2
theorem ins_end (hc : Cmp c ok) {h : Nat → Int} {n a i j q : Nat} (hq : j - 1 = q) (hok : AllOk ok h n) (hin : i < n) (hi : InsI c h a i j) (hji : j ≤ i) (hx : ¬ (a < j ∧ c (h j) (h q) < 0)) : Srtd c h a (i + 1) := fun p r h1 h2 h3 => by
  by_cases e1 : p = j
  · subst e1; exact hi.B r h2 (by omega)
  · by_cases e2 : r = j
    · subst e2
      have h4 : ¬ c (h r) (h q) < 0 := fun q => hx ⟨by omega, q⟩
      by_cases e3 : p = q
      · subst e3; exact h4
      · exact hc.le (hok p (by omega)) (hok q (by omega)) (hok r (by omega)) (hi.A p q h1 (by omega) (by omega) e1 (by omega)) h4
    · exact hi.A p r h1 h2 (by omega) e1 e2
end

section
variable (cT cS : Int) (cW cP : List D) {c : Int → Int → Int} {ok : Int → Prop} (hcm : Cmp c ok)
  (hcc : ∀ x y, ok x → ok y → Gives Try.prog 20 [.d (dI x), .d (dI y), .dp [dI cT], .dp [dI cS], .dp [.list 1 cW], .dp [.list 1 cP]] (.d (dI (c x y))))
include hcm hcc
set_option maxHeartbeats 4000000 in
theorem insSort_ok (g : Nat → Int) (n a b : Nat) (h1 : a ≤ b) (h2 : b ≤ n) (hn : n ≤ 1000000) (hok : AllOk ok g n) :
    WpF Try.prog 45 [.sl 0 n, .d (dI a), .d (dI b), .fn 20 [.dp [dI cT], .dp [dI cS], .dp [.list 1 cW], .dp [.list 1 cP]]] [.arr 3 1 (rowF g n)]
      fun r S => ∃ h, r = .tup [] ∧ S = [.arr 3 1 (rowF h n)] ∧ Mv a b g h ∧ Srtd c h a b := by
  have hw0 : IntKind.i64.wrap ((a : Int) + 1) = ((a + 1 : Nat) : Int) := by rw [wrapI (by omega) (by omega)]; omega
  refine WpF.enter tabOk Try.func45 rfl (by show 4 ≤ 53; decide) ?_
  simp only [Try.f45]
  refine WpC.seq (WpC.ops tabOk (r := []) (by simp -implicitDefEqProofs [hw0] <;> rfl) rfl ?_)
  refine WpC.block ?_
  refine WpC.loopM [0, 1, 2, 3] [8] (fun x => b - x.1) ((a + 1, g) : Nat × (Nat → Int)) (fun x => [(8, .d (dI (x.1 : Nat)))]) (fun x => [.arr 3 1 (rowF x.2 n)]) (fun x => a + 1 ≤ x.1 ∧ x.1 ≤ b + 1 ∧ Mv a b g x.2 ∧ Srtd c x.2 a x.1) (by simp -implicitDefEqProofs [hw0] <;> rfl) (Gh.cut' [8, 0, 1, 2, 3] 1 (by simp -implicitDefEqProofs [hw0]) (by simp -implicitDefEqProofs [hw0]) rfl (by simp) (by simp) (by simp)) (⟨by simp, by simp; omega, Mv.refl _ _ _, fun i j i1 i2 i3 => by simp at i3; omega⟩) ?_
  rintro x hi
  simp only [List.cons_append, List.nil_append]
  obtain ⟨i, h⟩ := x
  obtain ⟨h3, h4, h5, h6⟩ := hi
  simp only at h3 h4 h5 h6 ⊢
  refine WpC.seq ?_
  refine WpC.seq (WpC.ops tabOk (r := []) (by simp -implicitDefEqProofs [hw0] <;> rfl) rfl ?_)
  refine WpC.condR (by simp -implicitDefEqProofs [hw0] <;> rfl) (by rfl) (fun c14 => ?_) (fun c14 => ?_)
  · have c14' := c14; first | simp only [dT, dF] at c14' | try simp at c14'
    have hib : i < b := by simpa using c14
    have hw1 : IntKind.i64.wrap ((i : Int) + 1) = ((i + 1 : Nat) : Int) := by rw [wrapI (by omega) (by omega)]; omega
    refine WpC.skip ?_
    refine WpC.seq ?_
    refine WpC.block ?_
    refine WpC.seq (WpC.ops tabOk (r := []) (by simp -implicitDefEqProofs [hw0, c14, hw1] <;> rfl) rfl ?_)
    refine WpC.block ?_
    refine WpC.loopM [0, 1, 2, 3, 8] [9] (fun y => y.1) ((i, h) : Nat × (Nat → Int)) (fun y => [(9, .d (dI (y.1 : Nat)))]) (fun y => [.arr 3 1 (rowF y.2 n)]) (fun y => a ≤ y.1 ∧ y.1 ≤ i ∧ Mv a b g y.2 ∧ InsI c y.2 a i y.1) (by simp -implicitDefEqProofs [hw0, c14, hw1] <;> rfl) (Gh.cut' [9, 0, 1, 2, 3, 8] 1 (by simp -implicitDefEqProofs [hw0, c14, hw1]) (by simp -implicitDefEqProofs [hw0, c14, hw1]) rfl (by simp) (by simp) (by simp)) (⟨by simp; omega, by simp, h5, ins_begin h6⟩) ?_
    rintro y hi
    simp only [List.cons_append, List.nil_append]
    obtain ⟨j, h'⟩ := y
    obtain ⟨h3', h4', h5', h6'⟩ := hi
    simp only at h3' h4' h5' h6' ⊢
    obtain ⟨q, hq⟩ : ∃ q, j - 1 = q := ⟨_, rfl⟩
    have hok' := h5'.okk h2 hok
    have hjn : j < n := by omega
    have hqn : q < n := by omega
    refine WpC.seq ?_
    refine WpC.seq ?_
    refine WpC.val 34 (.d (.bool (decide (a < j ∧ c (h' j) (h' q) < 0)))) ?_ ?_
    · refine WpC.drawn tabOk (by kernel_rfl) 0 (by simp) ?_
      refine DrO.run (fz := []) 3 (by simp -implicitDefEqProofs [hw0, c14, hw1] <;> first | exact ⟨rfl, rfl, rfl, rfl⟩ | rfl) ?_
      refine DrO.run (fz := []) 1 (by simp -implicitDefEqProofs [hw0, c14, hw1] <;> first | exact ⟨rfl, rfl, rfl, rfl⟩ | rfl) ?_
      refine DrO.splitB 21 (by simp -implicitDefEqProofs [hw0, c14, hw1] <;> rfl) (by rfl) (fun g21 => ?_) (fun g21 => ?_)
      · have g21' := g21; first | simp only [dT, dF] at g21' | try simp at g21'
        have hw2 : IntKind.i64.wrap ((j : Int) - 1) = (q : Int) := by simp at g21; rw [wrapI (by omega) (by omega)]; omega
        refine DrO.run (fz := []) 3 (by simp -implicitDefEqProofs [hw0, c14, hw1, g21, hw2, hjn, hqn] <;> first | exact ⟨rfl, rfl, rfl, rfl⟩ | rfl) ?_
        refine DrO.run (fz := []) 3 (by simp -implicitDefEqProofs [hw0, c14, hw1, g21, hw2, hjn, hqn] <;> first | exact ⟨rfl, rfl, rfl, rfl⟩ | rfl) ?_
        refine DrO.run (fz := []) 3 (by simp -implicitDefEqProofs [hw0, c14, hw1, g21, hw2, hjn, hqn] <;> first | exact ⟨rfl, rfl, rfl, rfl⟩ | rfl) ?_
        refine DrO.run (fz := []) 1 (by simp -implicitDefEqProofs [hw0, c14, hw1, g21, hw2, hjn, hqn] <;> first | exact ⟨rfl, rfl, rfl, rfl⟩ | rfl) ?_
        refine DrO.data (by simp) rfl (by simp -implicitDefEqProofs [hw0, c14, hw1, g21, hw2, hjn, hqn] <;> rfl) (by simp -implicitDefEqProofs [hw0, c14, hw1, g21, hw2, hjn, hqn] <;> rfl) (by simp -implicitDefEqProofs [hw0, c14, hw1, g21, hw2, hjn, hqn] <;> rfl) call_20 (hcc (h' j) (h' q) (hok' j hjn) (hok' q hqn)) (by rfl) (by simp -implicitDefEqProofs [hw0, c14, hw1, g21, hw2, hjn, hqn] <;> rfl) ?_
        refine DrO.run (fz := []) 2 (by simp -implicitDefEqProofs [hw0, c14, hw1, g21, hw2, hjn, hqn] <;> first | exact ⟨rfl, rfl, rfl, rfl⟩ | rfl) ?_
        refine DrO.nil ⟨by kernel_rfl, ?_⟩
        refine ⟨rfl, Gh.only 34 17 ?_ (by first | rfl | simp -implicitDefEqProofs [hw0, c14, hw1, g21, hw2, hjn, hqn]) (by rfl)⟩
        simp -implicitDefEqProofs [hw0, c14, hw1, g21, hw2, hjn, hqn, g21']
      · have g21' := g21; first | simp only [dT, dF] at g21' | try simp at g21'
        refine DrO.run (fz := []) 3 (by simp -implicitDefEqProofs [hw0, c14, hw1, g21] <;> first | exact ⟨rfl, rfl, rfl, rfl⟩ | rfl) ?_
        refine DrO.run (fz := []) 3 (by simp -implicitDefEqProofs [hw0, c14, hw1, g21] <;> first | exact ⟨rfl, rfl, rfl, rfl⟩ | rfl) ?_
        refine DrO.run (fz := []) 3 (by simp -implicitDefEqProofs [hw0, c14, hw1, g21] <;> first | exact ⟨rfl, rfl, rfl, rfl⟩ | rfl) ?_
        refine DrO.run (fz := []) 3 (by simp -implicitDefEqProofs [hw0, c14, hw1, g21] <;> first | exact ⟨rfl, rfl, rfl, rfl⟩ | rfl) ?_
        refine DrO.run (fz := []) 1 (by simp -implicitDefEqProofs [hw0, c14, hw1, g21] <;> first | exact ⟨rfl, rfl, rfl, rfl⟩ | rfl) ?_
        refine DrO.nil ⟨by kernel_rfl, ?_⟩
        refine ⟨rfl, Gh.only 34 17 ?_ (by first | rfl | simp -implicitDefEqProofs [hw0, c14, hw1, g21]) (by rfl)⟩
        simp -implicitDefEqProofs [hw0, c14, hw1, g21, g21']
    refine WpC.condD (a < j ∧ c (h' j) (h' q) < 0) (by simp -implicitDefEqProofs [hw0, c14, hw1]) (fun d34 => ?_) (fun d34 => ?_)
    · have hw2 : IntKind.i64.wrap ((j : Int) - 1) = (q : Int) := by rw [wrapI (by omega) (by omega)]; omega
      refine WpC.skip ?_
      refine WpC.seq ?_
      refine WpC.block ?_
      refine WpC.drawn tabOk (by kernel_rfl) 0 (by simp) ?_
      refine DrO.run (fz := []) 3 (by simp -implicitDefEqProofs [hw0, c14, hw1, d34, hw2, hjn, hqn] <;> first | exact ⟨rfl, rfl, rfl, rfl⟩ | rfl) ?_
      refine DrO.run (fz := []) 3 (by simp -implicitDefEqProofs [hw0, c14, hw1, d34, hw2, hjn, hqn] <;> first | exact ⟨rfl, rfl, rfl, rfl⟩ | rfl) ?_
      refine DrO.run (fz := []) 3 (by simp -implicitDefEqProofs [hw0, c14, hw1, d34, hw2, hjn, hqn] <;> first | exact ⟨rfl, rfl, rfl, rfl⟩ | rfl) ?_
      refine DrO.run (fz := []) 3 (by simp -implicitDefEqProofs [hw0, c14, hw1, d34, hw2, hjn, hqn] <;> first | exact ⟨rfl, rfl, rfl, rfl⟩ | rfl) ?_
      refine DrO.run (fz := []) 3 (by simp -implicitDefEqProofs [hw0, c14, hw1, d34, hw2, hjn, hqn] <;> first | exact ⟨rfl, rfl, rfl, rfl⟩ | rfl) ?_
      refine DrO.run (fz := []) 3 (by simp -implicitDefEqProofs [hw0, c14, hw1, d34, hw2, hjn, hqn] <;> first | exact ⟨rfl, rfl, rfl, rfl⟩ | rfl) ?_
      refine DrO.nil ⟨by kernel_rfl, ?_⟩
      refine WpC.ops tabOk (r := []) (by simp -implicitDefEqProofs [hw0, c14, hw1, d34, hw2, hjn, hqn] <;> rfl) rfl ?_
      exact ⟨(q, sw h' j q), ⟨by simp; omega, by simp; omega, h5'.trans (Mv.sw _ (by omega) (by omega) (by omega) (by omega)), ins_step hcm hq hok' hjn h6' d34.1 h4' d34.2⟩, by simp; omega, Gh.cut' [9, 0, 1, 2, 3, 8] 1 (by simp -implicitDefEqProofs [hw0, c14, hw1, d34, hw2, hjn, hqn, c14', sw]) (by simp -implicitDefEqProofs [hw0, c14, hw1, d34, hw2, hjn, hqn, c14', sw]) rfl (by simp) (by simp) (by simp)⟩
    · have hsr := ins_end hcm hq hok' (by omega) h6' h4' d34
      refine WpC.exit ?_
      refine WpC.ops tabOk (r := []) (by simp -implicitDefEqProofs [hw0, c14, hw1, d34] <;> rfl) rfl ?_
      exact ⟨(i + 1, h'), ⟨by simp; omega, by simp; omega, h5', hsr⟩, by simp; omega, Gh.cut' [8, 0, 1, 2, 3] 1 (by simp -implicitDefEqProofs [hw0, c14, hw1, d34, c14']) (by simp -implicitDefEqProofs [hw0, c14, hw1, d34, c14']) rfl (by simp) (by simp) (by simp)⟩
  · have c14' := c14; first | simp only [dT, dF] at c14' | try simp at c14'
    refine WpC.exit ?_
    refine ⟨.inl rfl, [], rfl, ?_, by simp⟩
    exact ⟨h, rfl, rfl, h5, fun p r p1 p2 p3 => h6 p r p1 p2 (by simp at c14; omega)⟩
end
end Go.Proofs.Ytfbpcjkhgiickaa.Pay
