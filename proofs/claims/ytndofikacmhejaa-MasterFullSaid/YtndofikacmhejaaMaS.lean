/- Law MasterFull. No statement of the seed is proved here. -/
import Derived.Test.YtndofikacmhejaaMaQ
import Derived.Test.YtndofikacmhejaaMaL
import Derived.Test.YtndofikacmhejaaMaI
namespace Go.Proofs.Ytndofikacmhejaa.Pay
open Go Go.RowKit
set_option linter.unusedVariables false
set_option linter.unusedSimpArgs false

/-! What is said of the fifty: by deciding, of the search with fuel. -/
def findK (l : List Per) (id : Int) : Per × Int := if srchBK (perCmp id) l = true then ((l[srchK (perCmp id) l]?).getD noPer, 0) else (noPer, 5)
def atK (l : List Per) (id when : Int) : Int := if (findK l id).2 ≠ 0 ∨ when < (findK l id).1.hired ∨ ((findK l id).1.gone ≠ 0 ∧ (findK l id).1.gone ≤ when) then 5 else 0
theorem atK_eq (l : List Per) (id when : Int) : (atS l id when).2 = atK l id when := by
  have hf : findS l id = findK l id := by unfold findS findK; rw [srchBK_eq, srchK_eq]
  unfold atS atK
  rw [hf]
  split <;> rfl
def staffK (l : List Per) (when : Int) : List Int := (l.filter fun p => decide (atK l p.id when = 0)).map Per.id
theorem staffK_eq (l : List Per) (when : Int) : staffS l when = staffK l when := by
  unfold staffS staffK
  simp only [atK_eq]
def mfS (w : Nat) : List Int := (List.range (min (w + 1) 50)).map fun (n : Nat) => (n : Int) + 1
theorem mf_staff0 : ((List.range 60).all fun w => decide (staffK mfF (24276 + w) = mfS w)) = true := by decide +kernel
theorem mf_staff {w : Nat} (h : w < 60) : staffS mfF (24276 + w) = mfS w := by
  have := List.all_eq_true.1 mf_staff0 w (List.mem_range.2 h)
  rw [staffK_eq]; exact of_decide_eq_true this
theorem mf_full : (hireS mfF 51 (mfR 0)).2 = 9 := by rw [hireK_eq]; decide +kernel
def mfG : List Per := mfF.set 0 { mfP 0 with gone := 24280 }
theorem mf_gone : goneS mfF 1 24280 = (mfG, 0) := by
  have h1 : srch (perCmp 1) mfF = 0 := by rw [srchK_eq]; decide +kernel
  have h2 : srchB (perCmp 1) mfF = true := by rw [srchBK_eq]; decide +kernel
  have h3 : (mfF[0]?).getD noPer = mfP 0 := rfl
  unfold goneS
  rw [h1, h2, h3]
  rfl
theorem mf_at1 : (atS mfG 1 24280).2 = 5 := by rw [atK_eq]; decide +kernel
theorem mf_at2 : (atS mfG 1 24279).2 = 0 := by rw [atK_eq]; decide +kernel
theorem mfL_len (K : Int) : ∀ i, (mfL K i).length ≤ i ∧ ∀ p ∈ mfL K i, p.recs.length ≤ 1
  | 0 => ⟨Nat.le_refl _, by simp [mfL]⟩
  | i + 1 => by
    obtain ⟨h1, h2⟩ := mfL_len K i
    unfold mfL hireS
    split
    · exact ⟨by show (mfL K i).length ≤ _; omega, h2⟩
    · split
      · exact ⟨by show (mfL K i).length ≤ _; omega, h2⟩
      · split
        · exact ⟨by show (mfL K i).length ≤ _; omega, h2⟩
        · refine ⟨?_, fun p hp => ?_⟩
          · simp only [List.length_append, List.length_cons, List.length_take, List.length_drop]; omega
          · rcases List.mem_append.1 hp with hp | hp
            · exact h2 p (List.mem_of_mem_take hp)
            · rcases List.mem_cons.1 hp with rfl | hp
              · simp
              · exact h2 p (List.mem_of_mem_drop hp)
theorem mfId_in {K : Int} (hK : 1 ≤ K ∧ K ≤ 39) : ∀ i, 0 ≤ mfId K i ∧ mfId K i ≤ 49
  | 0 => by simp [mfId]
  | i + 1 => by simp only [mfId]; omega
theorem mf_K : ∀ s : Nat, s < 20 → (if (1 + 2 * (s : Int)) % 5 = 0 then 1 else 1 + 2 * (s : Int)) ∈ mfKs := by decide
theorem mfF_len : mfF.length = 50 := by simp [mfF]
theorem mfG_len : mfG.length = 50 := by simp [mfG, mfF]
theorem mfG_rec : ∀ p ∈ mfG, p.recs ≠ [] ∧ p.recs.length ≤ 1000000000 := by
  have h : (mfG.all fun p => decide (p.recs.length = 1)) = true := by decide +kernel
  intro p hp
  have := of_decide_eq_true (List.all_eq_true.1 h p hp)
  exact ⟨fun h => by rw [h] at this; simp at this, by omega⟩
theorem mfF_rec : ∀ p ∈ mfF, p.recs ≠ [] ∧ p.recs.length ≤ 1000000000 := by
  have h : (mfF.all fun p => decide (p.recs.length = 1)) = true := by decide +kernel
  intro p hp
  have := of_decide_eq_true (List.all_eq_true.1 h p hp)
  exact ⟨fun h => by rw [h] at this; simp at this, by omega⟩

set_option maxHeartbeats 20000000 in
theorem full_ok (st : Int) (hst : 0 ≤ st ∧ st ≤ 255) (wh : Int) (hwh : 0 ≤ wh ∧ wh ≤ 255) : Gives Try.prog 8 [.d (.int .u8 st), .d (.int .u8 wh)] (.d (.bool true)) := by
  obtain ⟨K, hKd⟩ : ∃ K : Int, (if (1 + 2 * (st % 20)) % 5 = 0 then 1 else 1 + 2 * (st % 20)) = K := ⟨_, rfl⟩
  have hKm : K ∈ mfKs := by
    obtain ⟨n, hn⟩ : ∃ n : Nat, st % 20 = n := ⟨(st % 20).toNat, by omega⟩
    have := mf_K n (by omega)
    rw [hn] at hKd
    rw [← hKd]; exact this
  obtain ⟨hE, hF⟩ := mf_ok hKm
  have hKb : 1 ≤ K ∧ K ≤ 39 := by
    rw [← hKd]; split <;> omega
  have e1 : st.tmod 20 = st % 20 := Int.tmod_eq_emod_of_nonneg hst.1
  have e2 : IntKind.u8.wrap (st % 20) = st % 20 := by simp [IntKind.wrap, IntKind.bits, IntKind.signed]; omega
  have e3 : IntKind.i64.wrap (st % 20) = st % 20 := wrapI (by omega) (by omega)
  have e4 : IntKind.i64.wrap (2 * (st % 20)) = 2 * (st % 20) := wrapI (by omega) (by omega)
  have e5 : IntKind.i64.wrap (1 + 2 * (st % 20)) = 1 + 2 * (st % 20) := wrapI (by omega) (by omega)
  have e6 : (1 + 2 * (st % 20)).tmod 5 = (1 + 2 * (st % 20)) % 5 := Int.tmod_eq_emod_of_nonneg (by omega)
  have e7 : IntKind.i64.wrap ((1 + 2 * (st % 20)) % 5) = (1 + 2 * (st % 20)) % 5 := wrapI (by omega) (by omega)
  obtain ⟨w, hw⟩ : ∃ w : Nat, wh % 60 = w := ⟨(wh % 60).toNat, by omega⟩
  have hw6 : w < 60 := by omega
  have f1 : wh.tmod 60 = w := by rw [Int.tmod_eq_emod_of_nonneg hwh.1, hw]
  have f2 : IntKind.u8.wrap (w : Int) = w := by simp [IntKind.wrap, IntKind.bits, IntKind.signed]; omega
  have f3 : IntKind.i64.wrap (w : Int) = w := wrapI (by omega) (by omega)
  have f4 : IntKind.i64.wrap (24276 + (w : Int)) = 24276 + w := wrapI (by omega) (by omega)
  have f5 : IntKind.i64.wrap ((w : Int) + 1) = w + 1 := wrapI (by omega) (by omega)
  have hsl : (mfS w).length = min (w + 1) 50 := by simp [mfS]
  have h51 := hire_ok mfF 51 (mfR 0) (by rw [mfF_len]; omega)
  rw [mf_full] at h51
  obtain ⟨m51, hm51⟩ : ∃ m, (hireS mfF 51 (mfR 0)).1 = m := ⟨_, rfl⟩
  rw [hm51] at h51
  have hsf := staff_ok mfF (24276 + w) (by rw [mfF_len]; omega) mfF_rec
  rw [mf_staff hw6] at hsf
  have hlv := leave_ok mfF 1 24280 (by rw [mfF_len]; omega)
  rw [mf_gone] at hlv
  have ha1 := at_ok mfG 1 24280 (by rw [mfG_len]; omega) mfG_rec
  have ha2 := at_ok mfG 1 24279 (by rw [mfG_len]; omega) mfG_rec
  rw [mf_at1] at ha1
  rw [mf_at2] at ha2
  obtain ⟨r1, hr1⟩ : ∃ r, (atS mfG 1 24280).1 = r := ⟨_, rfl⟩
  obtain ⟨r2, hr2⟩ : ∃ r, (atS mfG 1 24279).1 = r := ⟨_, rfl⟩
  rw [hr1] at ha1
  rw [hr2] at ha2
  obtain ⟨F, hFF⟩ : ∃ F, mfF = F := ⟨_, rfl⟩
  obtain ⟨G, hGG⟩ : ∃ G, mfG = G := ⟨_, rfl⟩
  obtain ⟨S, hSS⟩ : ∃ S, mfS w = S := ⟨_, rfl⟩
  have hget : ∀ k (h : k < S.length), S[k] = (k : Int) + 1 := by subst hSS; intro k h; simp [mfS]
  rw [hSS] at hsl hsf
  rw [hFF] at h51 hsf hlv hF
  rw [hGG] at hlv ha1 ha2
  have hz1 : mfId K 0 = 0 := rfl
  have hz2 : mfL K 0 = [] := rfl
  refine Gives.enter tabOk Try.func8 rfl (by show 2 ≤ 115; decide) ?_
  simp only [Try.f8]
  refine WpC.seq (WpC.ops tabOk (r := []) (by simp -implicitDefEqProofs [mfR, hz1, hz2, e1, e2, e3, e4, e5, e6, e7, f1, f2, f3, f4, f5] <;> rfl) rfl ?_)
  refine WpC.seq (WpC.ops tabOk (r := []) (by simp -implicitDefEqProofs [mfR, hz1, hz2, e1, e2, e3, e4, e5, e6, e7, f1, f2, f3, f4, f5] <;> rfl) rfl ?_)
  refine WpC.seq (WpC.ops tabOk (r := []) (by simp -implicitDefEqProofs [mfR, hz1, hz2, e1, e2, e3, e4, e5, e6, e7, f1, f2, f3, f4, f5] <;> rfl) rfl ?_)
  refine WpC.seq (WpC.ops tabOk (r := []) (by simp -implicitDefEqProofs [mfR, hz1, hz2, e1, e2, e3, e4, e5, e6, e7, f1, f2, f3, f4, f5] <;> rfl) rfl ?_)
  refine WpC.seq ?_
  refine WpC.seq (WpC.ops tabOk (r := []) (by simp -implicitDefEqProofs [mfR, hz1, hz2, e1, e2, e3, e4, e5, e6, e7, f1, f2, f3, f4, f5] <;> rfl) rfl ?_)
  refine WpC.condR (by simp -implicitDefEqProofs [mfR, hz1, hz2, e1, e2, e3, e4, e5, e6, e7, f1, f2, f3, f4, f5] <;> rfl) (by rfl) (fun c29 => ?_) (fun c29 => ?_)
  · have c29' := c29; first | simp only [dT, dF] at c29' | try simp at c29'
    have hK1 : 1 = K := by rw [← hKd, if_pos (by simpa using c29)]
    refine WpC.ops tabOk (r := []) (by simp -implicitDefEqProofs [mfR, hz1, hz2, e1, e2, e3, e4, e5, e6, e7, f1, f2, f3, f4, f5, c29] <;> rfl) rfl ?_
    refine WpC.seq ?_
    refine WpC.gh (Gh.nilList (id := 0) (off := 0) 5 (by simp; try exact ⟨rfl, rfl⟩) (by simp)) ?_
    refine WpC.gh (Gh.slot (t := 7) (y := .d (dI K)) (by simp <;> rfl) fun _ _ _ _ _ _ hv => hK1 ▸ hv) ?_
    refine WpC.seq (WpC.ops tabOk (r := []) (by simp -implicitDefEqProofs [mfR, hz1, hz2, e1, e2, e3, e4, e5, e6, e7, f1, f2, f3, f4, f5, c29] <;> rfl) rfl ?_)
    refine WpC.block ?_
    refine WpC.loopK [1, 5] [6, 7, 30] (50) (() : Unit) (fun k _ => [(6, .d (dI (mfId K k))), (7, .d (dI K)), (30, .d (.int .i64 k))]) (fun k _ => [.cells 57 [.d (encPes (mfL K k))]]) (fun k _ => True) (by simp -implicitDefEqProofs [mfR, hz1, hz2, e1, e2, e3, e4, e5, e6, e7, f1, f2, f3, f4, f5, c29] <;> rfl) (Gh.cut' [6, 7, 30, 1, 5] 1 (by simp -implicitDefEqProofs [mfR, hz1, hz2, e1, e2, e3, e4, e5, e6, e7, f1, f2, f3, f4, f5, c29]) (by simp -implicitDefEqProofs [mfR, hz1, hz2, e1, e2, e3, e4, e5, e6, e7, f1, f2, f3, f4, f5, c29]) rfl (by simp) (by simp) (by simp)) (by simp) ?_
    rintro k ⟨⟩ hk hi
    simp only [List.cons_append, List.nil_append]
    refine WpC.seq (WpC.ops tabOk (r := []) (by simp -implicitDefEqProofs [mfR, hz1, hz2, e1, e2, e3, e4, e5, e6, e7, f1, f2, f3, f4, f5, c29] <;> rfl) rfl ?_)
    refine WpC.seq (WpC.condD (k < 50) (by simp -implicitDefEqProofs [mfR, hz1, hz2, e1, e2, e3, e4, e5, e6, e7, f1, f2, f3, f4, f5, c29] <;> omega) (fun hlt => ?_) (fun hge => ?_))
    · refine WpC.skip ?_
      obtain ⟨j1, j2⟩ := mfId_in hKb k
      have hst' : mfId K (k + 1) = (mfId K k + K) % 50 := rfl
      obtain ⟨j3, j4⟩ := mfId_in hKb (k + 1)
      obtain ⟨d, hd⟩ : ∃ d, mfId K k = d := ⟨_, rfl⟩
      obtain ⟨d', hd'⟩ : ∃ d, mfId K (k + 1) = d := ⟨_, rfl⟩
      have hw : IntKind.i64.wrap ((k : Int) + 1) = k + 1 := wrapI (by omega) (by omega)
      have u1 : IntKind.i64.wrap (d + K) = d + K := wrapI (by omega) (by omega)
      have u2 : (d + K).tmod 50 = d' := by rw [Int.tmod_eq_emod_of_nonneg (by omega)]; omega
      have u3 : IntKind.i64.wrap d' = d' := wrapI (by omega) (by omega)
      have u4 : IntKind.i64.wrap (d' + 1) = d' + 1 := wrapI (by omega) (by omega)
      have u5 : IntKind.i64.wrap (24276 + d') = 24276 + d' := wrapI (by omega) (by omega)
      have hh := hire_ok (mfL K k) (d' + 1) (mfR d') (by have := (mfL_len K k).1; omega)
      have he := hE k hlt
      unfold mfE at he
      rw [hd'] at he
      rw [he] at hh
      have hn : mfL K (k + 1) = (hireS (mfL K k) (d' + 1) (mfR d')).1 := by rw [← hd']; rfl
      rw [← hn] at hh
      refine WpC.seq ?_
      refine WpC.block ?_
      refine WpC.seq (WpC.ops tabOk (r := []) (by simp -implicitDefEqProofs [mfR, hz1, hz2, e1, e2, e3, e4, e5, e6, e7, f1, f2, f3, f4, f5, c29, hlt, hw, hd, hd', u1, u2, u3, u4, u5] <;> rfl) rfl ?_)
      refine WpC.seq ?_
      refine WpC.region ?_
      refine WpO.run tabOk 6 (by simp -implicitDefEqProofs [mfR, hz1, hz2, e1, e2, e3, e4, e5, e6, e7, f1, f2, f3, f4, f5, c29, hlt, hw, hd, hd', u1, u2, u3, u4, u5] <;> first | exact ⟨rfl, rfl⟩ | rfl) ?_
      refine WpO.data (by simp) rfl (by simp -implicitDefEqProofs [mfR, hz1, hz2, e1, e2, e3, e4, e5, e6, e7, f1, f2, f3, f4, f5, c29, hlt, hw, hd, hd', u1, u2, u3, u4, u5] <;> rfl) (by simp -implicitDefEqProofs [mfR, hz1, hz2, e1, e2, e3, e4, e5, e6, e7, f1, f2, f3, f4, f5, c29, hlt, hw, hd, hd', u1, u2, u3, u4, u5] <;> rfl) (by simp -implicitDefEqProofs [mfR, hz1, hz2, e1, e2, e3, e4, e5, e6, e7, f1, f2, f3, f4, f5, c29, hlt, hw, hd, hd', u1, u2, u3, u4, u5] <;> rfl) call_20 (by simp) (hh) (by rfl) (by simp -implicitDefEqProofs [mfR, hz1, hz2, e1, e2, e3, e4, e5, e6, e7, f1, f2, f3, f4, f5, c29, hlt, hw, hd, hd', u1, u2, u3, u4, u5] <;> rfl) ?_
      refine WpO.run tabOk 6 (by simp -implicitDefEqProofs [mfR, hz1, hz2, e1, e2, e3, e4, e5, e6, e7, f1, f2, f3, f4, f5, c29, hlt, hw, hd, hd', u1, u2, u3, u4, u5] <;> first | exact ⟨rfl, rfl⟩ | rfl) ?_
      refine WpO.nil ?_
      refine WpC.seq ?_
      refine WpC.seq (WpC.ops tabOk (r := []) (by simp -implicitDefEqProofs [mfR, hz1, hz2, e1, e2, e3, e4, e5, e6, e7, f1, f2, f3, f4, f5, c29, hlt, hw, hd, hd', u1, u2, u3, u4, u5] <;> rfl) rfl ?_)
      refine WpC.condF (by simp -implicitDefEqProofs [mfR, hz1, hz2, e1, e2, e3, e4, e5, e6, e7, f1, f2, f3, f4, f5, c29, hlt, hw, hd, hd', u1, u2, u3, u4, u5] <;> rfl) ?_
      refine WpC.skip ?_
      refine WpC.ops tabOk (r := []) (by simp -implicitDefEqProofs [mfR, hz1, hz2, e1, e2, e3, e4, e5, e6, e7, f1, f2, f3, f4, f5, c29, hlt, hw, hd, hd', u1, u2, u3, u4, u5] <;> rfl) rfl ?_
      refine WpC.ops tabOk (r := []) (by simp -implicitDefEqProofs [mfR, hz1, hz2, e1, e2, e3, e4, e5, e6, e7, f1, f2, f3, f4, f5, c29, hlt, hw, hd, hd', u1, u2, u3, u4, u5] <;> rfl) rfl ?_
      exact ⟨hlt, (), trivial, Gh.cut' [6, 7, 30, 1, 5] 1 (by simp -implicitDefEqProofs [mfR, hz1, hz2, e1, e2, e3, e4, e5, e6, e7, f1, f2, f3, f4, f5, c29, hlt, hw, hd, hd', u1, u2, u3, u4, u5, c29']) (by simp -implicitDefEqProofs [mfR, hz1, hz2, e1, e2, e3, e4, e5, e6, e7, f1, f2, f3, f4, f5, c29, hlt, hw, hd, hd', u1, u2, u3, u4, u5, c29']) rfl (by simp) (by simp) (by simp)⟩
    · refine WpC.exit ?_
      have hkn : k = 50 := by omega
      subst hkn
      refine WpC.seq ?_
      refine WpC.region ?_
      refine WpO.run tabOk 2 (by simp -implicitDefEqProofs [mfR, hz1, hz2, e1, e2, e3, e4, e5, e6, e7, f1, f2, f3, f4, f5, c29, hF] <;> first | exact ⟨rfl, rfl⟩ | rfl) ?_
      refine WpO.data (by simp) rfl (by simp -implicitDefEqProofs [mfR, hz1, hz2, e1, e2, e3, e4, e5, e6, e7, f1, f2, f3, f4, f5, c29, hF] <;> rfl) (by simp -implicitDefEqProofs [mfR, hz1, hz2, e1, e2, e3, e4, e5, e6, e7, f1, f2, f3, f4, f5, c29, hF] <;> rfl) (by simp -implicitDefEqProofs [mfR, hz1, hz2, e1, e2, e3, e4, e5, e6, e7, f1, f2, f3, f4, f5, c29, hF] <;> rfl) call_20 (by simp) (h51) (by rfl) (by simp -implicitDefEqProofs [mfR, hz1, hz2, e1, e2, e3, e4, e5, e6, e7, f1, f2, f3, f4, f5, c29, hF] <;> rfl) ?_
      refine WpO.run tabOk 6 (by simp -implicitDefEqProofs [mfR, hz1, hz2, e1, e2, e3, e4, e5, e6, e7, f1, f2, f3, f4, f5, c29, hF] <;> first | exact ⟨rfl, rfl⟩ | rfl) ?_
      refine WpO.nil ?_
      refine WpC.seq (WpC.ops tabOk (r := []) (by simp -implicitDefEqProofs [mfR, hz1, hz2, e1, e2, e3, e4, e5, e6, e7, f1, f2, f3, f4, f5, c29, hF] <;> rfl) rfl ?_)
      refine WpC.seq ?_
      refine WpC.region ?_
      refine WpO.run tabOk 3 (by simp -implicitDefEqProofs [mfR, hz1, hz2, e1, e2, e3, e4, e5, e6, e7, f1, f2, f3, f4, f5, c29, hF] <;> first | exact ⟨rfl, rfl⟩ | rfl) ?_
      refine WpO.data (by simp) rfl (by simp -implicitDefEqProofs [mfR, hz1, hz2, e1, e2, e3, e4, e5, e6, e7, f1, f2, f3, f4, f5, c29, hF] <;> rfl) (by simp -implicitDefEqProofs [mfR, hz1, hz2, e1, e2, e3, e4, e5, e6, e7, f1, f2, f3, f4, f5, c29, hF] <;> rfl) (by simp -implicitDefEqProofs [mfR, hz1, hz2, e1, e2, e3, e4, e5, e6, e7, f1, f2, f3, f4, f5, c29, hF] <;> rfl) call_24 (by simp) (hsf) (by rfl) (by simp -implicitDefEqProofs [mfR, hz1, hz2, e1, e2, e3, e4, e5, e6, e7, f1, f2, f3, f4, f5, c29, hF] <;> rfl) ?_
      refine WpO.run tabOk 1 (by simp -implicitDefEqProofs [mfR, hz1, hz2, e1, e2, e3, e4, e5, e6, e7, f1, f2, f3, f4, f5, c29, hF] <;> first | exact ⟨rfl, rfl⟩ | rfl) ?_
      refine WpO.nil ?_
      refine WpC.seq ?_
      refine WpC.seq (WpC.ops tabOk (r := []) (by simp -implicitDefEqProofs [mfR, hz1, hz2, e1, e2, e3, e4, e5, e6, e7, f1, f2, f3, f4, f5, c29, hF] <;> rfl) rfl ?_)
      refine WpC.block ?_
      refine WpC.loopK [5, 11, 12, 13, 63, 64] [65] (S.length) (() : Unit) (fun k _ => [(65, .d (.int .i64 k))]) (fun k _ => [.cells 57 [.d (encPes F)]]) (fun k _ => True) (by simp -implicitDefEqProofs [mfR, hz1, hz2, e1, e2, e3, e4, e5, e6, e7, f1, f2, f3, f4, f5, c29, hF] <;> rfl) (Gh.cut' [65, 5, 11, 12, 13, 63, 64] 1 (by simp -implicitDefEqProofs [mfR, hz1, hz2, e1, e2, e3, e4, e5, e6, e7, f1, f2, f3, f4, f5, c29, hF]) (by simp -implicitDefEqProofs [mfR, hz1, hz2, e1, e2, e3, e4, e5, e6, e7, f1, f2, f3, f4, f5, c29, hF]) rfl (by simp) (by simp) (by simp)) (by simp) ?_
      rintro k ⟨⟩ hk hi
      simp only [List.cons_append, List.nil_append]
      refine WpC.seq (WpC.ops tabOk (r := []) (by simp -implicitDefEqProofs [mfR, hz1, hz2, e1, e2, e3, e4, e5, e6, e7, f1, f2, f3, f4, f5, c29, hF] <;> rfl) rfl ?_)
      refine WpC.seq (WpC.condD (k < S.length) (by simp -implicitDefEqProofs [mfR, hz1, hz2, e1, e2, e3, e4, e5, e6, e7, f1, f2, f3, f4, f5, c29, hF] <;> omega) (fun hlt => ?_) (fun hge => ?_))
      · refine WpC.skip ?_
        have hgk := hget k hlt
        have hk1 : IntKind.i64.wrap ((k : Int) + 1) = k + 1 := wrapI (by omega) (by omega)
        refine WpC.seq ?_
        refine WpC.block ?_
        refine WpC.seq (WpC.ops tabOk (r := []) (by simp -implicitDefEqProofs [mfR, hz1, hz2, e1, e2, e3, e4, e5, e6, e7, f1, f2, f3, f4, f5, c29, hF, hlt, hgk, hk1] <;> rfl) rfl ?_)
        refine WpC.seq (WpC.ops tabOk (r := []) (by simp -implicitDefEqProofs [mfR, hz1, hz2, e1, e2, e3, e4, e5, e6, e7, f1, f2, f3, f4, f5, c29, hF, hlt, hgk, hk1] <;> rfl) rfl ?_)
        refine WpC.condF (by simp -implicitDefEqProofs [mfR, hz1, hz2, e1, e2, e3, e4, e5, e6, e7, f1, f2, f3, f4, f5, c29, hF, hlt, hgk, hk1] <;> rfl) ?_
        refine WpC.skip ?_
        refine WpC.ops tabOk (r := []) (by simp -implicitDefEqProofs [mfR, hz1, hz2, e1, e2, e3, e4, e5, e6, e7, f1, f2, f3, f4, f5, c29, hF, hlt, hgk, hk1] <;> rfl) rfl ?_
        exact ⟨hlt, (), trivial, Gh.cut' [65, 5, 11, 12, 13, 63, 64] 1 (by simp -implicitDefEqProofs [mfR, hz1, hz2, e1, e2, e3, e4, e5, e6, e7, f1, f2, f3, f4, f5, c29, hF, hlt, hgk, hk1, c29']) (by simp -implicitDefEqProofs [mfR, hz1, hz2, e1, e2, e3, e4, e5, e6, e7, f1, f2, f3, f4, f5, c29, hF, hlt, hgk, hk1, c29']) rfl (by simp) (by simp) (by simp)⟩
      · refine WpC.exit ?_
        have hkn : k = S.length := by omega
        subst hkn
        refine WpC.seq ?_
        refine WpC.region ?_
        refine WpO.run tabOk 1 (by simp -implicitDefEqProofs [mfR, hz1, hz2, e1, e2, e3, e4, e5, e6, e7, f1, f2, f3, f4, f5, c29, hF] <;> first | exact ⟨rfl, rfl⟩ | rfl) ?_
        refine WpO.data (by simp) rfl (by simp -implicitDefEqProofs [mfR, hz1, hz2, e1, e2, e3, e4, e5, e6, e7, f1, f2, f3, f4, f5, c29, hF] <;> rfl) (by simp -implicitDefEqProofs [mfR, hz1, hz2, e1, e2, e3, e4, e5, e6, e7, f1, f2, f3, f4, f5, c29, hF] <;> rfl) (by simp -implicitDefEqProofs [mfR, hz1, hz2, e1, e2, e3, e4, e5, e6, e7, f1, f2, f3, f4, f5, c29, hF] <;> rfl) call_25 (by simp) (hlv) (by rfl) (by simp -implicitDefEqProofs [mfR, hz1, hz2, e1, e2, e3, e4, e5, e6, e7, f1, f2, f3, f4, f5, c29, hF] <;> rfl) ?_
        refine WpO.run tabOk 6 (by simp -implicitDefEqProofs [mfR, hz1, hz2, e1, e2, e3, e4, e5, e6, e7, f1, f2, f3, f4, f5, c29, hF] <;> first | exact ⟨rfl, rfl⟩ | rfl) ?_
        refine WpO.nil ?_
        refine WpC.seq ?_
        refine WpC.region ?_
        refine WpO.run tabOk 1 (by simp -implicitDefEqProofs [mfR, hz1, hz2, e1, e2, e3, e4, e5, e6, e7, f1, f2, f3, f4, f5, c29, hF] <;> first | exact ⟨rfl, rfl⟩ | rfl) ?_
        refine WpO.data (by simp) rfl (by simp -implicitDefEqProofs [mfR, hz1, hz2, e1, e2, e3, e4, e5, e6, e7, f1, f2, f3, f4, f5, c29, hF] <;> rfl) (by simp -implicitDefEqProofs [mfR, hz1, hz2, e1, e2, e3, e4, e5, e6, e7, f1, f2, f3, f4, f5, c29, hF] <;> rfl) (by simp -implicitDefEqProofs [mfR, hz1, hz2, e1, e2, e3, e4, e5, e6, e7, f1, f2, f3, f4, f5, c29, hF] <;> rfl) call_22 (by simp) (by first | exact ha1 | exact ha2) (by rfl) (by simp -implicitDefEqProofs [mfR, hz1, hz2, e1, e2, e3, e4, e5, e6, e7, f1, f2, f3, f4, f5, c29, hF] <;> rfl) ?_
        refine WpO.run tabOk 6 (by simp -implicitDefEqProofs [mfR, hz1, hz2, e1, e2, e3, e4, e5, e6, e7, f1, f2, f3, f4, f5, c29, hF] <;> first | exact ⟨rfl, rfl⟩ | rfl) ?_
        refine WpO.nil ?_
        refine WpC.seq ?_
        refine WpC.region ?_
        refine WpO.run tabOk 1 (by simp -implicitDefEqProofs [mfR, hz1, hz2, e1, e2, e3, e4, e5, e6, e7, f1, f2, f3, f4, f5, c29, hF] <;> first | exact ⟨rfl, rfl⟩ | rfl) ?_
        refine WpO.data (by simp) rfl (by simp -implicitDefEqProofs [mfR, hz1, hz2, e1, e2, e3, e4, e5, e6, e7, f1, f2, f3, f4, f5, c29, hF] <;> rfl) (by simp -implicitDefEqProofs [mfR, hz1, hz2, e1, e2, e3, e4, e5, e6, e7, f1, f2, f3, f4, f5, c29, hF] <;> rfl) (by simp -implicitDefEqProofs [mfR, hz1, hz2, e1, e2, e3, e4, e5, e6, e7, f1, f2, f3, f4, f5, c29, hF] <;> rfl) call_22 (by simp) (by first | exact ha1 | exact ha2) (by rfl) (by simp -implicitDefEqProofs [mfR, hz1, hz2, e1, e2, e3, e4, e5, e6, e7, f1, f2, f3, f4, f5, c29, hF] <;> rfl) ?_
        refine WpO.run tabOk 6 (by simp -implicitDefEqProofs [mfR, hz1, hz2, e1, e2, e3, e4, e5, e6, e7, f1, f2, f3, f4, f5, c29, hF] <;> first | exact ⟨rfl, rfl⟩ | rfl) ?_
        refine WpO.nil ?_
        refine WpC.seq ?_
        have hsl2 : (S.length : Int) = min ((w : Int) + 1) 50 := by omega
        refine WpC.val 4 (.d (.bool (true))) ?_ ?_
        · refine WpC.region ?_
          refine WpO.run tabOk 3 (by simp -implicitDefEqProofs [mfR, hz1, hz2, e1, e2, e3, e4, e5, e6, e7, f1, f2, f3, f4, f5, c29, hF, hsl2] <;> first | exact ⟨rfl, rfl⟩ | rfl) ?_
          refine WpO.splitB 92 (by simp -implicitDefEqProofs [mfR, hz1, hz2, e1, e2, e3, e4, e5, e6, e7, f1, f2, f3, f4, f5, c29, hF, hsl2] <;> rfl) (by rfl) (fun g92 => ?_) (fun g92 => ?_)
          · try (exfalso; revert g92; simp; done)
            all_goals
              have g92' := g92; first | simp only [dT, dF] at g92' | try simp at g92'
              refine WpO.run tabOk 8 (by simp -implicitDefEqProofs [mfR, hz1, hz2, e1, e2, e3, e4, e5, e6, e7, f1, f2, f3, f4, f5, c29, hF, hsl2, g92] <;> first | exact ⟨rfl, rfl⟩ | rfl) ?_
              refine WpO.splitB 100 (by simp -implicitDefEqProofs [mfR, hz1, hz2, e1, e2, e3, e4, e5, e6, e7, f1, f2, f3, f4, f5, c29, hF, hsl2, g92] <;> rfl) (by rfl) (fun g100 => ?_) (fun g100 => ?_)
              · try (exfalso; revert g100; simp; done)
                all_goals
                  have g100' := g100; first | simp only [dT, dF] at g100' | try simp at g100'
                  refine WpO.run tabOk 4 (by simp -implicitDefEqProofs [mfR, hz1, hz2, e1, e2, e3, e4, e5, e6, e7, f1, f2, f3, f4, f5, c29, hF, hsl2, g92, g100] <;> first | exact ⟨rfl, rfl⟩ | rfl) ?_
                  refine WpO.splitB 104 (by simp -implicitDefEqProofs [mfR, hz1, hz2, e1, e2, e3, e4, e5, e6, e7, f1, f2, f3, f4, f5, c29, hF, hsl2, g92, g100] <;> rfl) (by rfl) (fun g104 => ?_) (fun g104 => ?_)
                  · try (exfalso; revert g104; simp; done)
                    all_goals
                      have g104' := g104; first | simp only [dT, dF] at g104' | try simp at g104'
                      refine WpO.run tabOk 4 (by simp -implicitDefEqProofs [mfR, hz1, hz2, e1, e2, e3, e4, e5, e6, e7, f1, f2, f3, f4, f5, c29, hF, hsl2, g92, g100, g104] <;> first | exact ⟨rfl, rfl⟩ | rfl) ?_
                      refine WpO.splitB 108 (by simp -implicitDefEqProofs [mfR, hz1, hz2, e1, e2, e3, e4, e5, e6, e7, f1, f2, f3, f4, f5, c29, hF, hsl2, g92, g100, g104] <;> rfl) (by rfl) (fun g108 => ?_) (fun g108 => ?_)
                      · try (exfalso; revert g108; simp; done)
                        all_goals
                          have g108' := g108; first | simp only [dT, dF] at g108' | try simp at g108'
                          refine WpO.run tabOk 4 (by simp -implicitDefEqProofs [mfR, hz1, hz2, e1, e2, e3, e4, e5, e6, e7, f1, f2, f3, f4, f5, c29, hF, hsl2, g92, g100, g104, g108] <;> first | exact ⟨rfl, rfl⟩ | rfl) ?_
                          refine WpO.splitB 112 (by simp -implicitDefEqProofs [mfR, hz1, hz2, e1, e2, e3, e4, e5, e6, e7, f1, f2, f3, f4, f5, c29, hF, hsl2, g92, g100, g104, g108] <;> rfl) (by rfl) (fun g112 => ?_) (fun g112 => ?_)
                          · try (exfalso; revert g112; simp; done)
                            all_goals
                              have g112' := g112; first | simp only [dT, dF] at g112' | try simp at g112'
                              refine WpO.data (by simp) rfl (by simp -implicitDefEqProofs [mfR, hz1, hz2, e1, e2, e3, e4, e5, e6, e7, f1, f2, f3, f4, f5, c29, hF, hsl2, g92, g100, g104, g108, g112] <;> rfl) (by simp -implicitDefEqProofs [mfR, hz1, hz2, e1, e2, e3, e4, e5, e6, e7, f1, f2, f3, f4, f5, c29, hF, hsl2, g92, g100, g104, g108, g112] <;> rfl) (by simp -implicitDefEqProofs [mfR, hz1, hz2, e1, e2, e3, e4, e5, e6, e7, f1, f2, f3, f4, f5, c29, hF, hsl2, g92, g100, g104, g108, g112] <;> rfl) call_19 (by simp) (awake13_ok) (by rfl) (by simp -implicitDefEqProofs [mfR, hz1, hz2, e1, e2, e3, e4, e5, e6, e7, f1, f2, f3, f4, f5, c29, hF, hsl2, g92, g100, g104, g108, g112] <;> rfl) ?_
                              refine WpO.run tabOk 2 (by simp -implicitDefEqProofs [mfR, hz1, hz2, e1, e2, e3, e4, e5, e6, e7, f1, f2, f3, f4, f5, c29, hF, hsl2, g92, g100, g104, g108, g112] <;> first | exact ⟨rfl, rfl⟩ | rfl) ?_
                              refine WpO.nil ?_
                              refine ⟨rfl, Gh.only 4 31 ?_ (by first | rfl | simp -implicitDefEqProofs [mfR, hz1, hz2, e1, e2, e3, e4, e5, e6, e7, f1, f2, f3, f4, f5, c29, hF, hsl2, g92, g100, g104, g108, g112]) (by rfl)⟩
                              simp -implicitDefEqProofs [mfR, hz1, hz2, e1, e2, e3, e4, e5, e6, e7, f1, f2, f3, f4, f5, c29, hF, hsl2, g92, g100, g104, g108, g112, g92', g100', g104', g108', g112']
                          · try (exfalso; revert g112; simp; done)
                            all_goals
                              have g112' := g112; first | simp only [dT, dF] at g112' | try simp at g112'
                              refine WpO.run tabOk 3 (by simp -implicitDefEqProofs [mfR, hz1, hz2, e1, e2, e3, e4, e5, e6, e7, f1, f2, f3, f4, f5, c29, hF, hsl2, g92, g100, g104, g108, g112] <;> first | exact ⟨rfl, rfl⟩ | rfl) ?_
                              refine WpO.nil ?_
                              refine ⟨rfl, Gh.only 4 31 ?_ (by first | rfl | simp -implicitDefEqProofs [mfR, hz1, hz2, e1, e2, e3, e4, e5, e6, e7, f1, f2, f3, f4, f5, c29, hF, hsl2, g92, g100, g104, g108, g112]) (by rfl)⟩
                              simp -implicitDefEqProofs [mfR, hz1, hz2, e1, e2, e3, e4, e5, e6, e7, f1, f2, f3, f4, f5, c29, hF, hsl2, g92, g100, g104, g108, g112, g92', g100', g104', g108', g112']
                      · try (exfalso; revert g108; simp; done)
                        all_goals
                          have g108' := g108; first | simp only [dT, dF] at g108' | try simp at g108'
                          refine WpO.run tabOk 7 (by simp -implicitDefEqProofs [mfR, hz1, hz2, e1, e2, e3, e4, e5, e6, e7, f1, f2, f3, f4, f5, c29, hF, hsl2, g92, g100, g104, g108] <;> first | exact ⟨rfl, rfl⟩ | rfl) ?_
                          refine WpO.nil ?_
                          refine ⟨rfl, Gh.only 4 30 ?_ (by first | rfl | simp -implicitDefEqProofs [mfR, hz1, hz2, e1, e2, e3, e4, e5, e6, e7, f1, f2, f3, f4, f5, c29, hF, hsl2, g92, g100, g104, g108]) (by rfl)⟩
                          simp -implicitDefEqProofs [mfR, hz1, hz2, e1, e2, e3, e4, e5, e6, e7, f1, f2, f3, f4, f5, c29, hF, hsl2, g92, g100, g104, g108, g92', g100', g104', g108']
                  · try (exfalso; revert g104; simp; done)
                    all_goals
                      have g104' := g104; first | simp only [dT, dF] at g104' | try simp at g104'
                      refine WpO.run tabOk 11 (by simp -implicitDefEqProofs [mfR, hz1, hz2, e1, e2, e3, e4, e5, e6, e7, f1, f2, f3, f4, f5, c29, hF, hsl2, g92, g100, g104] <;> first | exact ⟨rfl, rfl⟩ | rfl) ?_
                      refine WpO.nil ?_
                      refine ⟨rfl, Gh.only 4 29 ?_ (by first | rfl | simp -implicitDefEqProofs [mfR, hz1, hz2, e1, e2, e3, e4, e5, e6, e7, f1, f2, f3, f4, f5, c29, hF, hsl2, g92, g100, g104]) (by rfl)⟩
                      simp -implicitDefEqProofs [mfR, hz1, hz2, e1, e2, e3, e4, e5, e6, e7, f1, f2, f3, f4, f5, c29, hF, hsl2, g92, g100, g104, g92', g100', g104']
              · try (exfalso; revert g100; simp; done)
                all_goals
                  have g100' := g100; first | simp only [dT, dF] at g100' | try simp at g100'
                  refine WpO.run tabOk 15 (by simp -implicitDefEqProofs [mfR, hz1, hz2, e1, e2, e3, e4, e5, e6, e7, f1, f2, f3, f4, f5, c29, hF, hsl2, g92, g100] <;> first | exact ⟨rfl, rfl⟩ | rfl) ?_
                  refine WpO.nil ?_
                  refine ⟨rfl, Gh.only 4 28 ?_ (by first | rfl | simp -implicitDefEqProofs [mfR, hz1, hz2, e1, e2, e3, e4, e5, e6, e7, f1, f2, f3, f4, f5, c29, hF, hsl2, g92, g100]) (by rfl)⟩
                  simp -implicitDefEqProofs [mfR, hz1, hz2, e1, e2, e3, e4, e5, e6, e7, f1, f2, f3, f4, f5, c29, hF, hsl2, g92, g100, g92', g100']
          · try (exfalso; revert g92; simp; done)
            all_goals
              have g92' := g92; first | simp only [dT, dF] at g92' | try simp at g92'
              refine WpO.run tabOk 23 (by simp -implicitDefEqProofs [mfR, hz1, hz2, e1, e2, e3, e4, e5, e6, e7, f1, f2, f3, f4, f5, c29, hF, hsl2, g92] <;> first | exact ⟨rfl, rfl⟩ | rfl) ?_
              refine WpO.nil ?_
              refine ⟨rfl, Gh.only 4 27 ?_ (by first | rfl | simp -implicitDefEqProofs [mfR, hz1, hz2, e1, e2, e3, e4, e5, e6, e7, f1, f2, f3, f4, f5, c29, hF, hsl2, g92]) (by rfl)⟩
              simp -implicitDefEqProofs [mfR, hz1, hz2, e1, e2, e3, e4, e5, e6, e7, f1, f2, f3, f4, f5, c29, hF, hsl2, g92, g92']
        refine WpC.ret ?_
        try simp only [blockQ, seqQ]
        refine retD_i (by simp -implicitDefEqProofs [mfR, hz1, hz2, e1, e2, e3, e4, e5, e6, e7, f1, f2, f3, f4, f5, c29, hF, hsl2] <;> rfl) (by simp -implicitDefEqProofs [mfR, hz1, hz2, e1, e2, e3, e4, e5, e6, e7, f1, f2, f3, f4, f5, c29, hF, hsl2] <;> rfl) ?_
        simp -implicitDefEqProofs [mfR, hz1, hz2, e1, e2, e3, e4, e5, e6, e7, f1, f2, f3, f4, f5, c29, hF, hsl2]
  · have c29' := c29; first | simp only [dT, dF] at c29' | try simp at c29'
    have hK1 : 1 + 2 * (st % 20) = K := by rw [← hKd, if_neg (by simpa using c29)]
    refine WpC.skip ?_
    refine WpC.seq ?_
    refine WpC.gh (Gh.nilList (id := 0) (off := 0) 5 (by simp; try exact ⟨rfl, rfl⟩) (by simp)) ?_
    refine WpC.gh (Gh.slot (t := 7) (y := .d (dI K)) (by simp <;> rfl) fun _ _ _ _ _ _ hv => hK1 ▸ hv) ?_
    refine WpC.seq (WpC.ops tabOk (r := []) (by simp -implicitDefEqProofs [mfR, hz1, hz2, e1, e2, e3, e4, e5, e6, e7, f1, f2, f3, f4, f5, c29] <;> rfl) rfl ?_)
    refine WpC.block ?_
    refine WpC.loopK [1, 5] [6, 7, 30] (50) (() : Unit) (fun k _ => [(6, .d (dI (mfId K k))), (7, .d (dI K)), (30, .d (.int .i64 k))]) (fun k _ => [.cells 57 [.d (encPes (mfL K k))]]) (fun k _ => True) (by simp -implicitDefEqProofs [mfR, hz1, hz2, e1, e2, e3, e4, e5, e6, e7, f1, f2, f3, f4, f5, c29] <;> rfl) (Gh.cut' [6, 7, 30, 1, 5] 1 (by simp -implicitDefEqProofs [mfR, hz1, hz2, e1, e2, e3, e4, e5, e6, e7, f1, f2, f3, f4, f5, c29]) (by simp -implicitDefEqProofs [mfR, hz1, hz2, e1, e2, e3, e4, e5, e6, e7, f1, f2, f3, f4, f5, c29]) rfl (by simp) (by simp) (by simp)) (by simp) ?_
    rintro k ⟨⟩ hk hi
    simp only [List.cons_append, List.nil_append]
    refine WpC.seq (WpC.ops tabOk (r := []) (by simp -implicitDefEqProofs [mfR, hz1, hz2, e1, e2, e3, e4, e5, e6, e7, f1, f2, f3, f4, f5, c29] <;> rfl) rfl ?_)
    refine WpC.seq (WpC.condD (k < 50) (by simp -implicitDefEqProofs [mfR, hz1, hz2, e1, e2, e3, e4, e5, e6, e7, f1, f2, f3, f4, f5, c29] <;> omega) (fun hlt => ?_) (fun hge => ?_))
    · refine WpC.skip ?_
      obtain ⟨j1, j2⟩ := mfId_in hKb k
      have hst' : mfId K (k + 1) = (mfId K k + K) % 50 := rfl
      obtain ⟨j3, j4⟩ := mfId_in hKb (k + 1)
      obtain ⟨d, hd⟩ : ∃ d, mfId K k = d := ⟨_, rfl⟩
      obtain ⟨d', hd'⟩ : ∃ d, mfId K (k + 1) = d := ⟨_, rfl⟩
      have hw : IntKind.i64.wrap ((k : Int) + 1) = k + 1 := wrapI (by omega) (by omega)
      have u1 : IntKind.i64.wrap (d + K) = d + K := wrapI (by omega) (by omega)
      have u2 : (d + K).tmod 50 = d' := by rw [Int.tmod_eq_emod_of_nonneg (by omega)]; omega
      have u3 : IntKind.i64.wrap d' = d' := wrapI (by omega) (by omega)
      have u4 : IntKind.i64.wrap (d' + 1) = d' + 1 := wrapI (by omega) (by omega)
      have u5 : IntKind.i64.wrap (24276 + d') = 24276 + d' := wrapI (by omega) (by omega)
      have hh := hire_ok (mfL K k) (d' + 1) (mfR d') (by have := (mfL_len K k).1; omega)
      have he := hE k hlt
      unfold mfE at he
      rw [hd'] at he
      rw [he] at hh
      have hn : mfL K (k + 1) = (hireS (mfL K k) (d' + 1) (mfR d')).1 := by rw [← hd']; rfl
      rw [← hn] at hh
      refine WpC.seq ?_
      refine WpC.block ?_
      refine WpC.seq (WpC.ops tabOk (r := []) (by simp -implicitDefEqProofs [mfR, hz1, hz2, e1, e2, e3, e4, e5, e6, e7, f1, f2, f3, f4, f5, c29, hlt, hw, hd, hd', u1, u2, u3, u4, u5] <;> rfl) rfl ?_)
      refine WpC.seq ?_
      refine WpC.region ?_
      refine WpO.run tabOk 6 (by simp -implicitDefEqProofs [mfR, hz1, hz2, e1, e2, e3, e4, e5, e6, e7, f1, f2, f3, f4, f5, c29, hlt, hw, hd, hd', u1, u2, u3, u4, u5] <;> first | exact ⟨rfl, rfl⟩ | rfl) ?_
      refine WpO.data (by simp) rfl (by simp -implicitDefEqProofs [mfR, hz1, hz2, e1, e2, e3, e4, e5, e6, e7, f1, f2, f3, f4, f5, c29, hlt, hw, hd, hd', u1, u2, u3, u4, u5] <;> rfl) (by simp -implicitDefEqProofs [mfR, hz1, hz2, e1, e2, e3, e4, e5, e6, e7, f1, f2, f3, f4, f5, c29, hlt, hw, hd, hd', u1, u2, u3, u4, u5] <;> rfl) (by simp -implicitDefEqProofs [mfR, hz1, hz2, e1, e2, e3, e4, e5, e6, e7, f1, f2, f3, f4, f5, c29, hlt, hw, hd, hd', u1, u2, u3, u4, u5] <;> rfl) call_20 (by simp) (hh) (by rfl) (by simp -implicitDefEqProofs [mfR, hz1, hz2, e1, e2, e3, e4, e5, e6, e7, f1, f2, f3, f4, f5, c29, hlt, hw, hd, hd', u1, u2, u3, u4, u5] <;> rfl) ?_
      refine WpO.run tabOk 6 (by simp -implicitDefEqProofs [mfR, hz1, hz2, e1, e2, e3, e4, e5, e6, e7, f1, f2, f3, f4, f5, c29, hlt, hw, hd, hd', u1, u2, u3, u4, u5] <;> first | exact ⟨rfl, rfl⟩ | rfl) ?_
      refine WpO.nil ?_
      refine WpC.seq ?_
      refine WpC.seq (WpC.ops tabOk (r := []) (by simp -implicitDefEqProofs [mfR, hz1, hz2, e1, e2, e3, e4, e5, e6, e7, f1, f2, f3, f4, f5, c29, hlt, hw, hd, hd', u1, u2, u3, u4, u5] <;> rfl) rfl ?_)
      refine WpC.condF (by simp -implicitDefEqProofs [mfR, hz1, hz2, e1, e2, e3, e4, e5, e6, e7, f1, f2, f3, f4, f5, c29, hlt, hw, hd, hd', u1, u2, u3, u4, u5] <;> rfl) ?_
      refine WpC.skip ?_
      refine WpC.ops tabOk (r := []) (by simp -implicitDefEqProofs [mfR, hz1, hz2, e1, e2, e3, e4, e5, e6, e7, f1, f2, f3, f4, f5, c29, hlt, hw, hd, hd', u1, u2, u3, u4, u5] <;> rfl) rfl ?_
      refine WpC.ops tabOk (r := []) (by simp -implicitDefEqProofs [mfR, hz1, hz2, e1, e2, e3, e4, e5, e6, e7, f1, f2, f3, f4, f5, c29, hlt, hw, hd, hd', u1, u2, u3, u4, u5] <;> rfl) rfl ?_
      exact ⟨hlt, (), trivial, Gh.cut' [6, 7, 30, 1, 5] 1 (by simp -implicitDefEqProofs [mfR, hz1, hz2, e1, e2, e3, e4, e5, e6, e7, f1, f2, f3, f4, f5, c29, hlt, hw, hd, hd', u1, u2, u3, u4, u5, c29']) (by simp -implicitDefEqProofs [mfR, hz1, hz2, e1, e2, e3, e4, e5, e6, e7, f1, f2, f3, f4, f5, c29, hlt, hw, hd, hd', u1, u2, u3, u4, u5, c29']) rfl (by simp) (by simp) (by simp)⟩
    · refine WpC.exit ?_
      have hkn : k = 50 := by omega
      subst hkn
      refine WpC.seq ?_
      refine WpC.region ?_
      refine WpO.run tabOk 2 (by simp -implicitDefEqProofs [mfR, hz1, hz2, e1, e2, e3, e4, e5, e6, e7, f1, f2, f3, f4, f5, c29, hF] <;> first | exact ⟨rfl, rfl⟩ | rfl) ?_
      refine WpO.data (by simp) rfl (by simp -implicitDefEqProofs [mfR, hz1, hz2, e1, e2, e3, e4, e5, e6, e7, f1, f2, f3, f4, f5, c29, hF] <;> rfl) (by simp -implicitDefEqProofs [mfR, hz1, hz2, e1, e2, e3, e4, e5, e6, e7, f1, f2, f3, f4, f5, c29, hF] <;> rfl) (by simp -implicitDefEqProofs [mfR, hz1, hz2, e1, e2, e3, e4, e5, e6, e7, f1, f2, f3, f4, f5, c29, hF] <;> rfl) call_20 (by simp) (h51) (by rfl) (by simp -implicitDefEqProofs [mfR, hz1, hz2, e1, e2, e3, e4, e5, e6, e7, f1, f2, f3, f4, f5, c29, hF] <;> rfl) ?_
      refine WpO.run tabOk 6 (by simp -implicitDefEqProofs [mfR, hz1, hz2, e1, e2, e3, e4, e5, e6, e7, f1, f2, f3, f4, f5, c29, hF] <;> first | exact ⟨rfl, rfl⟩ | rfl) ?_
      refine WpO.nil ?_
      refine WpC.seq (WpC.ops tabOk (r := []) (by simp -implicitDefEqProofs [mfR, hz1, hz2, e1, e2, e3, e4, e5, e6, e7, f1, f2, f3, f4, f5, c29, hF] <;> rfl) rfl ?_)
      refine WpC.seq ?_
      refine WpC.region ?_
      refine WpO.run tabOk 3 (by simp -implicitDefEqProofs [mfR, hz1, hz2, e1, e2, e3, e4, e5, e6, e7, f1, f2, f3, f4, f5, c29, hF] <;> first | exact ⟨rfl, rfl⟩ | rfl) ?_
      refine WpO.data (by simp) rfl (by simp -implicitDefEqProofs [mfR, hz1, hz2, e1, e2, e3, e4, e5, e6, e7, f1, f2, f3, f4, f5, c29, hF] <;> rfl) (by simp -implicitDefEqProofs [mfR, hz1, hz2, e1, e2, e3, e4, e5, e6, e7, f1, f2, f3, f4, f5, c29, hF] <;> rfl) (by simp -implicitDefEqProofs [mfR, hz1, hz2, e1, e2, e3, e4, e5, e6, e7, f1, f2, f3, f4, f5, c29, hF] <;> rfl) call_24 (by simp) (hsf) (by rfl) (by simp -implicitDefEqProofs [mfR, hz1, hz2, e1, e2, e3, e4, e5, e6, e7, f1, f2, f3, f4, f5, c29, hF] <;> rfl) ?_
      refine WpO.run tabOk 1 (by simp -implicitDefEqProofs [mfR, hz1, hz2, e1, e2, e3, e4, e5, e6, e7, f1, f2, f3, f4, f5, c29, hF] <;> first | exact ⟨rfl, rfl⟩ | rfl) ?_
      refine WpO.nil ?_
      refine WpC.seq ?_
      refine WpC.seq (WpC.ops tabOk (r := []) (by simp -implicitDefEqProofs [mfR, hz1, hz2, e1, e2, e3, e4, e5, e6, e7, f1, f2, f3, f4, f5, c29, hF] <;> rfl) rfl ?_)
      refine WpC.block ?_
      refine WpC.loopK [5, 11, 12, 13, 63, 64] [65] (S.length) (() : Unit) (fun k _ => [(65, .d (.int .i64 k))]) (fun k _ => [.cells 57 [.d (encPes F)]]) (fun k _ => True) (by simp -implicitDefEqProofs [mfR, hz1, hz2, e1, e2, e3, e4, e5, e6, e7, f1, f2, f3, f4, f5, c29, hF] <;> rfl) (Gh.cut' [65, 5, 11, 12, 13, 63, 64] 1 (by simp -implicitDefEqProofs [mfR, hz1, hz2, e1, e2, e3, e4, e5, e6, e7, f1, f2, f3, f4, f5, c29, hF]) (by simp -implicitDefEqProofs [mfR, hz1, hz2, e1, e2, e3, e4, e5, e6, e7, f1, f2, f3, f4, f5, c29, hF]) rfl (by simp) (by simp) (by simp)) (by simp) ?_
      rintro k ⟨⟩ hk hi
      simp only [List.cons_append, List.nil_append]
      refine WpC.seq (WpC.ops tabOk (r := []) (by simp -implicitDefEqProofs [mfR, hz1, hz2, e1, e2, e3, e4, e5, e6, e7, f1, f2, f3, f4, f5, c29, hF] <;> rfl) rfl ?_)
      refine WpC.seq (WpC.condD (k < S.length) (by simp -implicitDefEqProofs [mfR, hz1, hz2, e1, e2, e3, e4, e5, e6, e7, f1, f2, f3, f4, f5, c29, hF] <;> omega) (fun hlt => ?_) (fun hge => ?_))
      · refine WpC.skip ?_
        have hgk := hget k hlt
        have hk1 : IntKind.i64.wrap ((k : Int) + 1) = k + 1 := wrapI (by omega) (by omega)
        refine WpC.seq ?_
        refine WpC.block ?_
        refine WpC.seq (WpC.ops tabOk (r := []) (by simp -implicitDefEqProofs [mfR, hz1, hz2, e1, e2, e3, e4, e5, e6, e7, f1, f2, f3, f4, f5, c29, hF, hlt, hgk, hk1] <;> rfl) rfl ?_)
        refine WpC.seq (WpC.ops tabOk (r := []) (by simp -implicitDefEqProofs [mfR, hz1, hz2, e1, e2, e3, e4, e5, e6, e7, f1, f2, f3, f4, f5, c29, hF, hlt, hgk, hk1] <;> rfl) rfl ?_)
        refine WpC.condF (by simp -implicitDefEqProofs [mfR, hz1, hz2, e1, e2, e3, e4, e5, e6, e7, f1, f2, f3, f4, f5, c29, hF, hlt, hgk, hk1] <;> rfl) ?_
        refine WpC.skip ?_
        refine WpC.ops tabOk (r := []) (by simp -implicitDefEqProofs [mfR, hz1, hz2, e1, e2, e3, e4, e5, e6, e7, f1, f2, f3, f4, f5, c29, hF, hlt, hgk, hk1] <;> rfl) rfl ?_
        exact ⟨hlt, (), trivial, Gh.cut' [65, 5, 11, 12, 13, 63, 64] 1 (by simp -implicitDefEqProofs [mfR, hz1, hz2, e1, e2, e3, e4, e5, e6, e7, f1, f2, f3, f4, f5, c29, hF, hlt, hgk, hk1, c29']) (by simp -implicitDefEqProofs [mfR, hz1, hz2, e1, e2, e3, e4, e5, e6, e7, f1, f2, f3, f4, f5, c29, hF, hlt, hgk, hk1, c29']) rfl (by simp) (by simp) (by simp)⟩
      · refine WpC.exit ?_
        have hkn : k = S.length := by omega
        subst hkn
        refine WpC.seq ?_
        refine WpC.region ?_
        refine WpO.run tabOk 1 (by simp -implicitDefEqProofs [mfR, hz1, hz2, e1, e2, e3, e4, e5, e6, e7, f1, f2, f3, f4, f5, c29, hF] <;> first | exact ⟨rfl, rfl⟩ | rfl) ?_
        refine WpO.data (by simp) rfl (by simp -implicitDefEqProofs [mfR, hz1, hz2, e1, e2, e3, e4, e5, e6, e7, f1, f2, f3, f4, f5, c29, hF] <;> rfl) (by simp -implicitDefEqProofs [mfR, hz1, hz2, e1, e2, e3, e4, e5, e6, e7, f1, f2, f3, f4, f5, c29, hF] <;> rfl) (by simp -implicitDefEqProofs [mfR, hz1, hz2, e1, e2, e3, e4, e5, e6, e7, f1, f2, f3, f4, f5, c29, hF] <;> rfl) call_25 (by simp) (hlv) (by rfl) (by simp -implicitDefEqProofs [mfR, hz1, hz2, e1, e2, e3, e4, e5, e6, e7, f1, f2, f3, f4, f5, c29, hF] <;> rfl) ?_
        refine WpO.run tabOk 6 (by simp -implicitDefEqProofs [mfR, hz1, hz2, e1, e2, e3, e4, e5, e6, e7, f1, f2, f3, f4, f5, c29, hF] <;> first | exact ⟨rfl, rfl⟩ | rfl) ?_
        refine WpO.nil ?_
        refine WpC.seq ?_
        refine WpC.region ?_
        refine WpO.run tabOk 1 (by simp -implicitDefEqProofs [mfR, hz1, hz2, e1, e2, e3, e4, e5, e6, e7, f1, f2, f3, f4, f5, c29, hF] <;> first | exact ⟨rfl, rfl⟩ | rfl) ?_
        refine WpO.data (by simp) rfl (by simp -implicitDefEqProofs [mfR, hz1, hz2, e1, e2, e3, e4, e5, e6, e7, f1, f2, f3, f4, f5, c29, hF] <;> rfl) (by simp -implicitDefEqProofs [mfR, hz1, hz2, e1, e2, e3, e4, e5, e6, e7, f1, f2, f3, f4, f5, c29, hF] <;> rfl) (by simp -implicitDefEqProofs [mfR, hz1, hz2, e1, e2, e3, e4, e5, e6, e7, f1, f2, f3, f4, f5, c29, hF] <;> rfl) call_22 (by simp) (by first | exact ha1 | exact ha2) (by rfl) (by simp -implicitDefEqProofs [mfR, hz1, hz2, e1, e2, e3, e4, e5, e6, e7, f1, f2, f3, f4, f5, c29, hF] <;> rfl) ?_
        refine WpO.run tabOk 6 (by simp -implicitDefEqProofs [mfR, hz1, hz2, e1, e2, e3, e4, e5, e6, e7, f1, f2, f3, f4, f5, c29, hF] <;> first | exact ⟨rfl, rfl⟩ | rfl) ?_
        refine WpO.nil ?_
        refine WpC.seq ?_
        refine WpC.region ?_
        refine WpO.run tabOk 1 (by simp -implicitDefEqProofs [mfR, hz1, hz2, e1, e2, e3, e4, e5, e6, e7, f1, f2, f3, f4, f5, c29, hF] <;> first | exact ⟨rfl, rfl⟩ | rfl) ?_
        refine WpO.data (by simp) rfl (by simp -implicitDefEqProofs [mfR, hz1, hz2, e1, e2, e3, e4, e5, e6, e7, f1, f2, f3, f4, f5, c29, hF] <;> rfl) (by simp -implicitDefEqProofs [mfR, hz1, hz2, e1, e2, e3, e4, e5, e6, e7, f1, f2, f3, f4, f5, c29, hF] <;> rfl) (by simp -implicitDefEqProofs [mfR, hz1, hz2, e1, e2, e3, e4, e5, e6, e7, f1, f2, f3, f4, f5, c29, hF] <;> rfl) call_22 (by simp) (by first | exact ha1 | exact ha2) (by rfl) (by simp -implicitDefEqProofs [mfR, hz1, hz2, e1, e2, e3, e4, e5, e6, e7, f1, f2, f3, f4, f5, c29, hF] <;> rfl) ?_
        refine WpO.run tabOk 6 (by simp -implicitDefEqProofs [mfR, hz1, hz2, e1, e2, e3, e4, e5, e6, e7, f1, f2, f3, f4, f5, c29, hF] <;> first | exact ⟨rfl, rfl⟩ | rfl) ?_
        refine WpO.nil ?_
        refine WpC.seq ?_
        have hsl2 : (S.length : Int) = min ((w : Int) + 1) 50 := by omega
        refine WpC.val 4 (.d (.bool (true))) ?_ ?_
        · refine WpC.region ?_
          refine WpO.run tabOk 3 (by simp -implicitDefEqProofs [mfR, hz1, hz2, e1, e2, e3, e4, e5, e6, e7, f1, f2, f3, f4, f5, c29, hF, hsl2] <;> first | exact ⟨rfl, rfl⟩ | rfl) ?_
          refine WpO.splitB 92 (by simp -implicitDefEqProofs [mfR, hz1, hz2, e1, e2, e3, e4, e5, e6, e7, f1, f2, f3, f4, f5, c29, hF, hsl2] <;> rfl) (by rfl) (fun g92 => ?_) (fun g92 => ?_)
          · try (exfalso; revert g92; simp; done)
            all_goals
              have g92' := g92; first | simp only [dT, dF] at g92' | try simp at g92'
              refine WpO.run tabOk 8 (by simp -implicitDefEqProofs [mfR, hz1, hz2, e1, e2, e3, e4, e5, e6, e7, f1, f2, f3, f4, f5, c29, hF, hsl2, g92] <;> first | exact ⟨rfl, rfl⟩ | rfl) ?_
              refine WpO.splitB 100 (by simp -implicitDefEqProofs [mfR, hz1, hz2, e1, e2, e3, e4, e5, e6, e7, f1, f2, f3, f4, f5, c29, hF, hsl2, g92] <;> rfl) (by rfl) (fun g100 => ?_) (fun g100 => ?_)
              · try (exfalso; revert g100; simp; done)
                all_goals
                  have g100' := g100; first | simp only [dT, dF] at g100' | try simp at g100'
                  refine WpO.run tabOk 4 (by simp -implicitDefEqProofs [mfR, hz1, hz2, e1, e2, e3, e4, e5, e6, e7, f1, f2, f3, f4, f5, c29, hF, hsl2, g92, g100] <;> first | exact ⟨rfl, rfl⟩ | rfl) ?_
                  refine WpO.splitB 104 (by simp -implicitDefEqProofs [mfR, hz1, hz2, e1, e2, e3, e4, e5, e6, e7, f1, f2, f3, f4, f5, c29, hF, hsl2, g92, g100] <;> rfl) (by rfl) (fun g104 => ?_) (fun g104 => ?_)
                  · try (exfalso; revert g104; simp; done)
                    all_goals
                      have g104' := g104; first | simp only [dT, dF] at g104' | try simp at g104'
                      refine WpO.run tabOk 4 (by simp -implicitDefEqProofs [mfR, hz1, hz2, e1, e2, e3, e4, e5, e6, e7, f1, f2, f3, f4, f5, c29, hF, hsl2, g92, g100, g104] <;> first | exact ⟨rfl, rfl⟩ | rfl) ?_
                      refine WpO.splitB 108 (by simp -implicitDefEqProofs [mfR, hz1, hz2, e1, e2, e3, e4, e5, e6, e7, f1, f2, f3, f4, f5, c29, hF, hsl2, g92, g100, g104] <;> rfl) (by rfl) (fun g108 => ?_) (fun g108 => ?_)
                      · try (exfalso; revert g108; simp; done)
                        all_goals
                          have g108' := g108; first | simp only [dT, dF] at g108' | try simp at g108'
                          refine WpO.run tabOk 4 (by simp -implicitDefEqProofs [mfR, hz1, hz2, e1, e2, e3, e4, e5, e6, e7, f1, f2, f3, f4, f5, c29, hF, hsl2, g92, g100, g104, g108] <;> first | exact ⟨rfl, rfl⟩ | rfl) ?_
                          refine WpO.splitB 112 (by simp -implicitDefEqProofs [mfR, hz1, hz2, e1, e2, e3, e4, e5, e6, e7, f1, f2, f3, f4, f5, c29, hF, hsl2, g92, g100, g104, g108] <;> rfl) (by rfl) (fun g112 => ?_) (fun g112 => ?_)
                          · try (exfalso; revert g112; simp; done)
                            all_goals
                              have g112' := g112; first | simp only [dT, dF] at g112' | try simp at g112'
                              refine WpO.data (by simp) rfl (by simp -implicitDefEqProofs [mfR, hz1, hz2, e1, e2, e3, e4, e5, e6, e7, f1, f2, f3, f4, f5, c29, hF, hsl2, g92, g100, g104, g108, g112] <;> rfl) (by simp -implicitDefEqProofs [mfR, hz1, hz2, e1, e2, e3, e4, e5, e6, e7, f1, f2, f3, f4, f5, c29, hF, hsl2, g92, g100, g104, g108, g112] <;> rfl) (by simp -implicitDefEqProofs [mfR, hz1, hz2, e1, e2, e3, e4, e5, e6, e7, f1, f2, f3, f4, f5, c29, hF, hsl2, g92, g100, g104, g108, g112] <;> rfl) call_19 (by simp) (awake13_ok) (by rfl) (by simp -implicitDefEqProofs [mfR, hz1, hz2, e1, e2, e3, e4, e5, e6, e7, f1, f2, f3, f4, f5, c29, hF, hsl2, g92, g100, g104, g108, g112] <;> rfl) ?_
                              refine WpO.run tabOk 2 (by simp -implicitDefEqProofs [mfR, hz1, hz2, e1, e2, e3, e4, e5, e6, e7, f1, f2, f3, f4, f5, c29, hF, hsl2, g92, g100, g104, g108, g112] <;> first | exact ⟨rfl, rfl⟩ | rfl) ?_
                              refine WpO.nil ?_
                              refine ⟨rfl, Gh.only 4 31 ?_ (by first | rfl | simp -implicitDefEqProofs [mfR, hz1, hz2, e1, e2, e3, e4, e5, e6, e7, f1, f2, f3, f4, f5, c29, hF, hsl2, g92, g100, g104, g108, g112]) (by rfl)⟩
                              simp -implicitDefEqProofs [mfR, hz1, hz2, e1, e2, e3, e4, e5, e6, e7, f1, f2, f3, f4, f5, c29, hF, hsl2, g92, g100, g104, g108, g112, g92', g100', g104', g108', g112']
                          · try (exfalso; revert g112; simp; done)
                            all_goals
                              have g112' := g112; first | simp only [dT, dF] at g112' | try simp at g112'
                              refine WpO.run tabOk 3 (by simp -implicitDefEqProofs [mfR, hz1, hz2, e1, e2, e3, e4, e5, e6, e7, f1, f2, f3, f4, f5, c29, hF, hsl2, g92, g100, g104, g108, g112] <;> first | exact ⟨rfl, rfl⟩ | rfl) ?_
                              refine WpO.nil ?_
                              refine ⟨rfl, Gh.only 4 31 ?_ (by first | rfl | simp -implicitDefEqProofs [mfR, hz1, hz2, e1, e2, e3, e4, e5, e6, e7, f1, f2, f3, f4, f5, c29, hF, hsl2, g92, g100, g104, g108, g112]) (by rfl)⟩
                              simp -implicitDefEqProofs [mfR, hz1, hz2, e1, e2, e3, e4, e5, e6, e7, f1, f2, f3, f4, f5, c29, hF, hsl2, g92, g100, g104, g108, g112, g92', g100', g104', g108', g112']
                      · try (exfalso; revert g108; simp; done)
                        all_goals
                          have g108' := g108; first | simp only [dT, dF] at g108' | try simp at g108'
                          refine WpO.run tabOk 7 (by simp -implicitDefEqProofs [mfR, hz1, hz2, e1, e2, e3, e4, e5, e6, e7, f1, f2, f3, f4, f5, c29, hF, hsl2, g92, g100, g104, g108] <;> first | exact ⟨rfl, rfl⟩ | rfl) ?_
                          refine WpO.nil ?_
                          refine ⟨rfl, Gh.only 4 30 ?_ (by first | rfl | simp -implicitDefEqProofs [mfR, hz1, hz2, e1, e2, e3, e4, e5, e6, e7, f1, f2, f3, f4, f5, c29, hF, hsl2, g92, g100, g104, g108]) (by rfl)⟩
                          simp -implicitDefEqProofs [mfR, hz1, hz2, e1, e2, e3, e4, e5, e6, e7, f1, f2, f3, f4, f5, c29, hF, hsl2, g92, g100, g104, g108, g92', g100', g104', g108']
                  · try (exfalso; revert g104; simp; done)
                    all_goals
                      have g104' := g104; first | simp only [dT, dF] at g104' | try simp at g104'
                      refine WpO.run tabOk 11 (by simp -implicitDefEqProofs [mfR, hz1, hz2, e1, e2, e3, e4, e5, e6, e7, f1, f2, f3, f4, f5, c29, hF, hsl2, g92, g100, g104] <;> first | exact ⟨rfl, rfl⟩ | rfl) ?_
                      refine WpO.nil ?_
                      refine ⟨rfl, Gh.only 4 29 ?_ (by first | rfl | simp -implicitDefEqProofs [mfR, hz1, hz2, e1, e2, e3, e4, e5, e6, e7, f1, f2, f3, f4, f5, c29, hF, hsl2, g92, g100, g104]) (by rfl)⟩
                      simp -implicitDefEqProofs [mfR, hz1, hz2, e1, e2, e3, e4, e5, e6, e7, f1, f2, f3, f4, f5, c29, hF, hsl2, g92, g100, g104, g92', g100', g104']
              · try (exfalso; revert g100; simp; done)
                all_goals
                  have g100' := g100; first | simp only [dT, dF] at g100' | try simp at g100'
                  refine WpO.run tabOk 15 (by simp -implicitDefEqProofs [mfR, hz1, hz2, e1, e2, e3, e4, e5, e6, e7, f1, f2, f3, f4, f5, c29, hF, hsl2, g92, g100] <;> first | exact ⟨rfl, rfl⟩ | rfl) ?_
                  refine WpO.nil ?_
                  refine ⟨rfl, Gh.only 4 28 ?_ (by first | rfl | simp -implicitDefEqProofs [mfR, hz1, hz2, e1, e2, e3, e4, e5, e6, e7, f1, f2, f3, f4, f5, c29, hF, hsl2, g92, g100]) (by rfl)⟩
                  simp -implicitDefEqProofs [mfR, hz1, hz2, e1, e2, e3, e4, e5, e6, e7, f1, f2, f3, f4, f5, c29, hF, hsl2, g92, g100, g92', g100']
          · try (exfalso; revert g92; simp; done)
            all_goals
              have g92' := g92; first | simp only [dT, dF] at g92' | try simp at g92'
              refine WpO.run tabOk 23 (by simp -implicitDefEqProofs [mfR, hz1, hz2, e1, e2, e3, e4, e5, e6, e7, f1, f2, f3, f4, f5, c29, hF, hsl2, g92] <;> first | exact ⟨rfl, rfl⟩ | rfl) ?_
              refine WpO.nil ?_
              refine ⟨rfl, Gh.only 4 27 ?_ (by first | rfl | simp -implicitDefEqProofs [mfR, hz1, hz2, e1, e2, e3, e4, e5, e6, e7, f1, f2, f3, f4, f5, c29, hF, hsl2, g92]) (by rfl)⟩
              simp -implicitDefEqProofs [mfR, hz1, hz2, e1, e2, e3, e4, e5, e6, e7, f1, f2, f3, f4, f5, c29, hF, hsl2, g92, g92']
        refine WpC.ret ?_
        try simp only [blockQ, seqQ]
        refine retD_i (by simp -implicitDefEqProofs [mfR, hz1, hz2, e1, e2, e3, e4, e5, e6, e7, f1, f2, f3, f4, f5, c29, hF, hsl2] <;> rfl) (by simp -implicitDefEqProofs [mfR, hz1, hz2, e1, e2, e3, e4, e5, e6, e7, f1, f2, f3, f4, f5, c29, hF, hsl2] <;> rfl) ?_
        simp -implicitDefEqProofs [mfR, hz1, hz2, e1, e2, e3, e4, e5, e6, e7, f1, f2, f3, f4, f5, c29, hF, hsl2]
section
variable {w : World}
theorem masterFull_row {e0 e1 : List D} {v0 v1 : Value} {i0 i1 : TI} (y0 : HasT tab 8 5 e0) (y1 : HasT tab 8 5 e1) (t0 : some i0 = tab 5) (t1 : some i1 = tab 5)
    (z0 : DRel w (lt w) (elemD i0 e0) v0) (z1 : DRel w (lt w) (elemD i1 e1) v1) :
    Calls Try.prog 8 #[v0, v1] w fun e w' => e = .returned (.bool true) ∧ Below w.heap.size w w' := by
  rw [tab_5] at t0 t1; cases t0; cases t1
  obtain ⟨a, rfl, ha⟩ := has_num y0 tab_5
  obtain ⟨b, rfl, hb⟩ := has_num y1 tab_5
  refine WpF.law (full_ok a ha b hb) (fun r S h => h.1) (vs := [v0, v1]) ?_
  simp only [VRelL, VRel]
  exact ⟨v0, _, rfl, z0, v1, _, rfl, z1, rfl⟩
end
end Go.Proofs.Ytndofikacmhejaa.Pay
