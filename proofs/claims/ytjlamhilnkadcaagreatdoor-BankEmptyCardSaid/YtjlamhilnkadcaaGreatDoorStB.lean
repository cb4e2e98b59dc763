/- strings.Builder, over objects: its copyCheck, WriteString, String. No statement of the seed is proved here. -/
import Derived.Test.YtjlamhilnkadcaaGreatDoorPayP
import Derived.Shelf.Strings.Builder1
namespace Go.Proofs.YtjlamhilnkadcaaGreatDoor.Pay
open Go Go.RowKit Go.Shelf Go.Proofs
set_option linter.unusedVariables false
set_option linter.unusedSimpArgs false

@[reducible] def tBld : TypeId := 66
/-- Bytes of a row. -/
def u8L (l : List UInt8) : List D := l.map fun b => D.int .u8 b.toNat
@[simp] theorem u8L_len (l : List UInt8) : (u8L l).length = l.length := by simp [u8L]
@[simp] theorem u8L_app (l m : List UInt8) : u8L l ++ u8L m = u8L (l ++ m) := by simp [u8L]
@[simp] theorem u8L_map (l : List UInt8) : l.map (fun b => D.int .u8 (b.toNat : Int)) = u8L l := rfl

def laysBCopy_ren : Ren := ⟨fun | 240 => 26 | 276 => 46 | n => n,
  fun | 0 => 0 | 4 => 4 | 9 => 9 | 20 => 20 | 37 => 64 | 70 => 63 | 72 => 66 | 164 => 105 | n => n, fun | n => n⟩
theorem laysBCopy : Lays.n240 Tryz.prog laysBCopy_ren where
  mixed := by kernel_rfl
  f240 := Tryz.func26.trans (congrArg some (by kernel_rfl))
  f276 := by kernel_rfl
  t0 := Tryz.underlying0
  a0 := Tryz.isAgg0
  z0 := Tryz.sizeOf0
  v0 := Tryz.zeroValue0
  t4 := Tryz.underlying4
  a4 := Tryz.isAgg4
  z4 := Tryz.sizeOf4
  v4 := Tryz.zeroValue4
  t9 := Tryz.underlying9
  a9 := Tryz.isAgg9
  z9 := Tryz.sizeOf9
  v9 := Tryz.zeroValue9
  t20 := Tryz.underlying20
  a20 := Tryz.isAgg20
  z20 := Tryz.sizeOf20
  v20 := Tryz.zeroValue20
  t70 := Tryz.underlying63
  a70 := Tryz.isAgg63
  z70 := Tryz.sizeOf63
  v70 := Tryz.zeroValue63
  t72 := Tryz.underlying66
  a72 := Tryz.isAgg66
  z72 := Tryz.sizeOf66
  v72 := Tryz.zeroValue66
  t164 := Tryz.underlying105
  a164 := Tryz.isAgg105
  z164 := Tryz.sizeOf105
  v164 := Tryz.zeroValue105
theorem laysBX : Builder.X72 Tryz.prog laysBCopy_ren where
  sizeBuilder := by kernel_rfl
  liesBuilder := by kernel_rfl

/-- Objects alone are a state without slots. -/
theorem OR.sr {w : World} {I : Nat → Prop} {L : List Lay} {S : List Ob} (h : OR w I L S) (p : Nat) : SR w I L ⟨[], S, 0, p⟩ { tmps := #[], defers := [] } :=
  ⟨fun t x hx => by simp [get] at hx, rfl, h.len, h.obs, h.nodup, h.sep, h.imm, rfl⟩

theorem copyCheck_ok {x p : FV} {S : List Ob} (hS : S[0]? = some (.cells tBld [p, x])) (hp : p = .d .nilp ∨ p = .ref 0 0) :
    WpF Tryz.prog 26 [.ref 0 0] S fun r S' => r = .tup [] ∧ S' = S.set 0 (.cells tBld [.ref 0 0, x]) := fun w I L vs ha hO => by
  simp only [VRelL, VRel] at ha
  obtain ⟨_, _, rfl, ⟨b, hb, rfl⟩, rfl⟩ := ha
  obtain ⟨b', vs', he, hg, ho, hr⟩ := hO.obs 0 _ _ hS hb
  cases he
  simp only [VRelL] at hr
  obtain ⟨vp, _, rfl, h1, vx, _, rfl, h2, rfl⟩ := hr
  have hs := hO.sr S.length
  have h0 : 0 < S.length := (List.getElem?_eq_some_iff.1 hS).1
  rcases hp with rfl | rfl
  · simp only [VRel, DRel] at h1
    subst h1
    refine (Any.Builder_copyCheck_fresh laysBCopy laysBX b w ?_ ?_ ?_).mono ?_
    · rw [Lib.cell_of_heap hg]; rfl
    · simp [World.shape?, hg]
      try rfl
    · exact Lib.frozen_of_heap hg 0
    · rintro e w' ⟨rfl, rfl⟩
      have hk : ∀ q, q < w.heap.size → q ∉ own (.cells tBld [.d .nilp, x]) (.c b) → (w.setCell ⟨b, 0, none⟩ (.pointer (some ⟨b, 0, none⟩))).heap[q]? = w.heap[q]? := fun q _ hq => Below.heap_setCell w _ _ q (by simpa [own] using hq)
      have hsz : (w.setCell ⟨b, 0, none⟩ (.pointer (some ⟨b, 0, none⟩))).heap.size = w.heap.size := by simp [World.setCell]
      have hII : ∀ q, I q → (w.setCell ⟨b, 0, none⟩ (.pointer (some ⟨b, 0, none⟩))).heap[q]? = w.heap[q]? := fun q hq => hk q (hO.imm q hq) fun h => (hO.sep q (owns_mem hS hb q h)).1 hq
      have hor : ORel (w.setCell ⟨b, 0, none⟩ (.pointer (some ⟨b, 0, none⟩))) I L (.cells tBld [.ref 0 0, x]) (.c b) := by
        refine ⟨b, [.pointer (some ⟨b, 0, none⟩), vx], rfl, ?_, fun v hv => ?_, ?_⟩
        · simp [World.setCell, Array.getElem?_modify, hg]
        · simp at hv
          rcases hv with rfl | rfl
          · rfl
          · exact ho _ (by simp)
        · simp only [VRelL, VRel]
          exact ⟨_, _, rfl, ⟨b, hb, rfl⟩, vx, _, rfl, VRel.mono hII (fun _ h => h) (fun _ _ h => h) _ _ h2, rfl⟩
      have r1 := hs.upd hS hb (o' := .cells tBld [.ref 0 0, x]) rfl hk hsz hor
      have r2 := Step.upd (w := w) (w' := w.setCell ⟨b, 0, none⟩ (.pointer (some ⟨b, 0, none⟩))) (I := I) (s := ⟨[], S, 0, S.length⟩) hS hb (o' := .cells tBld [.ref 0 0, x]) rfl hk hsz rfl rfl rfl
      exact ⟨.tup [], _, _, I, L, rfl, ⟨rfl, rfl⟩, by simp [VRel, VRelL], r1.or, r2.evo, by simp, fun i _ => rfl⟩
  · simp only [VRel] at h1
    obtain ⟨b2, hb2, rfl⟩ := h1
    rw [hb] at hb2
    cases hb2
    refine (Any.Builder_copyCheck_used laysBCopy laysBX b w (by rw [Lib.cell_of_heap hg]; rfl)).mono ?_
    rintro e w' ⟨rfl, rfl⟩
    refine ⟨.tup [], _, S, I, L, rfl, ⟨rfl, ?_⟩, by simp [VRel, VRelL], hO, Evo.refl _ _ _, Nat.le_refl _, fun i _ => rfl⟩
    apply List.ext_getElem?
    intro i
    rw [List.getElem?_set]
    split
    · rename_i h
      subst h
      rw [hS]
      try simp [h0]
    · rfl

/-! ### String -/
def laysBString_ren : Go.Shelf.Ren := ⟨fun | 169 => 15 | n => n, fun | 70 => 63 | 9 => 9 | 0 => 0 | 72 => 66 | 37 => 64 | 127 => 88 | 3 => 3 | 5 => 5 | n => n, fun | n => n⟩
theorem laysBString : Go.Proofs.Lays.n169 Tryz.prog laysBString_ren where
  mixed := by kernel_rfl
  f169 := Tryz.func15.trans (congrArg some (by kernel_rfl))
  t0 := Tryz.underlying0
  a0 := Tryz.isAgg0
  z0 := Tryz.sizeOf0
  v0 := Tryz.zeroValue0
  t3 := Tryz.underlying3
  a3 := Tryz.isAgg3
  z3 := Tryz.sizeOf3
  v3 := Tryz.zeroValue3
  t9 := Tryz.underlying9
  a9 := Tryz.isAgg9
  z9 := Tryz.sizeOf9
  v9 := Tryz.zeroValue9
  t37 := Tryz.underlying64
  a37 := Tryz.isAgg64
  z37 := Tryz.sizeOf64
  v37 := Tryz.zeroValue64
  t70 := Tryz.underlying63
  a70 := Tryz.isAgg63
  z70 := Tryz.sizeOf63
  v70 := Tryz.zeroValue63
  t72 := Tryz.underlying66
  a72 := Tryz.isAgg66
  z72 := Tryz.sizeOf66
  v72 := Tryz.zeroValue66
  t127 := Tryz.underlying88
  a127 := Tryz.isAgg88
  z127 := Tryz.sizeOf88
  v127 := Tryz.zeroValue88

set_option maxHeartbeats 1000000 in
set_option maxRecDepth 100000 in
theorem bstring_raw {P : Program} {ρ : Ren} (L : Lays.n169 P ρ) (hc : P.cellsOf (ρ.t 5) = 1) (b g cap : Nat) (p : Value) (cur : Array Value) (l : List UInt8) (w : World)
    (hb : w.heap[b]? = some (.cells #[p, .slice (some ⟨g, 0, none⟩) l.length cap] (ρ.t 72) (0, 0))) (hg : w.heap[g]? = some (.cells cur (ρ.t 5) (0, 0))) (h0 : l ≠ []) (h1 : l.length ≤ cap) (h2 : cap ≤ maxLen) (h3 : cur.size = cap)
    (h4 : ∀ (j : Nat) x, l[j]? = some x → w.cell? ((⟨g, 0, none⟩ : Addr).add j) = some (.int .u8 x.toNat)) :
    Calls P (ρ.f 169) #[.pointer (some ⟨b, 0, none⟩)] w fun e w' => e = .returned (.string ⟨l.toArray⟩) ∧ w' = w.drew.freeze ⟨g, 0, none⟩ l.length := by
  have hl0 : l.length ≠ 0 := by simpa using h0
  have c1 : w.drew.cell? ⟨b, 1, none⟩ = some (.slice (some ⟨g, 0, none⟩) l.length cap) := by
    have : w.drew.heap[b]? = some (.cells #[p, .slice (some ⟨g, 0, none⟩) l.length cap] (ρ.t 72) (0, 0)) := hb
    rw [Lib.cell_of_heap this]; rfl
  have hSD : (Builtin.unsafeSliceData_ #[(ρ.t 37)] (ρ.t 127) #[.slice (some ⟨g, 0, none⟩) l.length cap]).run P w.drew = .ok (.pointer (some ⟨g, 0, none⟩)) w.drew :=
    Lib.run_unsafeSliceData_row _ _ _ _ _ _ (by omega)
  have hUS : (Builtin.unsafeString_ #[(ρ.t 127), (ρ.t 3)] (ρ.t 9) #[.pointer (some ⟨g, 0, none⟩), .int .i64 l.length]).run P w.drew = .ok (.string ⟨l.toArray⟩) (w.drew.freeze ⟨g, 0, none⟩ l.length) := by
    refine Lib.run_unsafeString_row w.drew (ρ.t 127) (ρ.t 3) (ρ.t 9) (ρ.t 5) L.t127 hc g cur.size (by have hg' : w.drew.heap[g]? = some (.cells cur (ρ.t 5) (0, 0)) := hg; simp [World.shape?, hg']) l h0 (by omega) (by unfold maxLen at h2; omega) ?_
    intro j x hx
    exact h4 j x hx
  clear h1 h2 h3 h4 hl0
  have mixed := L.mixed
  have t72 := L.t72; have a72 := L.a72; have z72 := L.z72; have v72 := L.v72; have u72 := run_underlying L.t72
  have t70 := L.t70; have a70 := L.a70; have z70 := L.z70; have v70 := L.v70; have u70 := run_underlying L.t70
  have t37 := L.t37; have a37 := L.a37; have z37 := L.z37; have v37 := L.v37; have u37 := run_underlying L.t37
  have t127 := L.t127; have a127 := L.a127; have z127 := L.z127; have v127 := L.v127; have u127 := run_underlying L.t127
  have t3 := L.t3; have a3 := L.a3; have z3 := L.z3; have v3 := L.v3; have u3 := run_underlying L.t3
  have t9 := L.t9; have a9 := L.a9; have z9 := L.z9; have v9 := L.v9; have u9 := run_underlying L.t9
  go_enter L.f169, Body.n169_ntmps ρ
  go_wp2
  go_region_o
  all_goals (go_wp2; go_ret; exact ⟨rfl, rfl⟩)

theorem string_ok {p : FV} (l : List UInt8) (h : l ≠ []) :
    WpF Tryz.prog 15 [.ref 0 0] [.cells tBld [p, .sl 1 l.length], .arr 5 1 (u8L l)] fun r S' => r = .d (.str l) ∧ S' = [.gone, .gone] := fun w I L vs ha hO => by
  simp only [VRelL, VRel] at ha
  obtain ⟨_, _, rfl, ⟨b, hb, rfl⟩, rfl⟩ := ha
  obtain ⟨b', vs', he, hg, ho, hr⟩ := hO.obs 0 _ _ rfl hb
  cases he
  simp only [VRelL, VRel] at hr
  obtain ⟨vp, _, rfl, h1, vx, _, rfl, ⟨lr, hd, cap, hL1, hh, rfl⟩, rfl⟩ := hr
  have hlen := hO.len
  simp only [List.length_cons, List.length_nil] at hlen
  obtain ⟨g, hlr, cp, cur, hrow, hcp, hcm, hcs, htk⟩ : ∃ g, lr = .a (some g) cap ∧ ∃ cp cur, w.heap[g]? = some (.cells cur 5 (0, 0)) ∧ l.length ≤ cap ∧ cap ≤ maxLen ∧ cur.size = cap ∧ (∀ (j : Nat) x, l[j]? = some x → w.cell? ((⟨g, 0, none⟩ : Addr).add j) = some (.int .u8 x.toNat)) := by
    have hl0 : l.length ≠ 0 := by simpa using h
    rcases hO.obs 1 _ _ rfl hL1 with ⟨base, c, us, rfl, hown, hr⟩ | ⟨hd', rfl, he⟩
    · simp only [Lay.hdr, Option.some.injEq, Prod.mk.injEq] at hh
      obtain ⟨rfl, rfl⟩ := hh
      have hu : us = l.map fun b => Value.int .u8 b.toNat := by
        have : ∀ (l : List UInt8) (us : List Value), DRelR w I 1 (u8L l) us → us = l.map fun b => Value.int .u8 b.toNat := by
          intro l
          induction l with
          | nil => intro us h; simpa [u8L, DRelR] using h
          | cons x l ih =>
            intro us h
            simp only [u8L, List.map_cons, DRelR, DRel] at h
            obtain ⟨v, r, rfl, _, rfl, h⟩ := h
            rw [ih r h]
            simp [Value.cells]
        exact this l us hr
      rcases hown.2 with ⟨_, h0⟩ | ⟨g, cp, cur, he, _, hg, hle, hm, hcs, htk⟩
      · rw [u8L_len] at h0; omega
      · cases base with
        | none => simp [Lay.head] at he
        | some b0 =>
          simp only [Lay.head, Option.map_some, Value.slice.injEq, Option.some.injEq, Addr.mk.injEq, and_true, true_and] at he
          obtain ⟨rfl, _, rfl⟩ := he
          rw [u8L_len] at hle
          refine ⟨b0, rfl, c, cur, hg, hle, hm, by simpa using hcs, fun j x hx => ?_⟩
          have := hown.cells (g := b0) rfl j (.int .u8 x.toNat) (by rw [hu]; simp [hx])
          exact this
    · exact absurd (List.eq_nil_of_length_eq_zero (by rw [← u8L_len l, he]; rfl)) h
  subst hlr
  simp only [Lay.hdr, Lay.head, Option.map_some, Option.some.injEq, Prod.mk.injEq, and_true] at hh
  subst hh
  refine (bstring_raw laysBString (by kernel_rfl) b g cap vp cur l w hg hrow h hcp hcm hcs htk).mono ?_
  rintro e w' ⟨rfl, rfl⟩
  have hfz : ∀ q, q ≠ g → (w.drew.freeze ⟨g, 0, none⟩ l.length).heap[q]? = w.heap[q]? := fun q hq => by
    unfold World.freeze
    split
    · rfl
    · simp only [Array.getElem?_modify]
      rw [if_neg (fun e => hq e.symm)]
      rfl
  have hsz : (w.drew.freeze ⟨g, 0, none⟩ l.length).heap.size = w.heap.size := by
    unfold World.freeze
    split <;> simp
  have hmem : g ∈ owns [.cells tBld [p, .sl 1 l.length], .arr 5 1 (u8L l)] L := owns_mem (i := 1) rfl hL1 g (by simp [own])
  have hII : ∀ q, I q → (w.drew.freeze ⟨g, 0, none⟩ l.length).heap[q]? = w.heap[q]? := fun q hq => hfz q fun e => (hO.sep g hmem).1 (e ▸ hq)
  have how : owns [.gone, .gone] L = [] := owns_gone 2 L
  refine ⟨.d (.str l), _, [.gone, .gone], I, L, rfl, ⟨rfl, rfl⟩, by simp only [VRel, DRel], ⟨by simpa using hlen, fun i o l' h1 h2 => ?_, by rw [how]; exact List.nodup_nil, fun q hq => by rw [how] at hq; simp at hq, hO.imm.mono hII (by omega)⟩,
    ⟨by unfold World.freeze; split <;> rfl, by unfold World.freeze; split <;> rfl, by unfold World.freeze; split <;> rfl, by omega, fun q _ hn => hfz q fun e => hn (e ▸ hmem), fun _ h => h, fun _ h => .inl h, fun q hq => by rw [how] at hq; simp at hq⟩, by simp, fun i _ => rfl⟩
  have : o = .gone := by
    match i, h1 with
    | 0, h1 => simpa using h1.symm
    | 1, h1 => simpa using h1.symm
  subst this
  trivial

end Go.Proofs.YtjlamhilnkadcaaGreatDoor.Pay
