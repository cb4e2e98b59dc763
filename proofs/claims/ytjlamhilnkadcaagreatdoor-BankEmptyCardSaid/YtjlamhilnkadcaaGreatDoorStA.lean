/- Library functions, by the shelf's contracts: strconv.Itoa, Atoi, over data. No statement of the seed is proved here. -/
import Derived.Test.YtjlamhilnkadcaaGreatDoorPayP
import Derived.Shelf.Strconv.Itoa3
import Derived.Shelf.Strconv.ErrVarAll
namespace Go.Proofs.YtjlamhilnkadcaaGreatDoor.Pay
open Go Go.RowKit Go.Shelf Go.Proofs
set_option linter.unusedVariables false
set_option linter.unusedSimpArgs false

/-- A function that makes new blocks alone, as a contract over data. -/
theorem Gives.of {P : Program} {f : FuncId} {args : List FV} {r : FV} (h : ∀ w I vs, Imm w I → VRelL w I [] args vs → Calls P f vs.toArray w fun e w' => ∃ v, e = .returned v ∧ Below w.heap.size w w' ∧
    ∃ B : Nat → Prop, (∀ b, B b → w.heap.size ≤ b ∧ b < w'.heap.size) ∧ VRel w' (fun b => I b ∨ B b) [] r v) : Gives P f args r := fun w I L vs ha hO => by
  have hL : L = [] := List.eq_nil_of_length_eq_zero hO.len
  subst hL
  refine (h w I vs hO.imm ha).mono fun e w' ⟨v, he, hb, B, hB, hv⟩ => ?_
  have hk : ∀ b, I b → w'.heap[b]? = w.heap[b]? := fun b hb' => hb.block b (hO.imm b hb')
  refine ⟨r, v, [], fun b => I b ∨ B b, [], he, ⟨rfl, rfl⟩, hv, ⟨rfl, fun i o l h => by simp at h, by simp [owns], fun b hb => by simp [owns] at hb, (hO.imm.mono hk hb.size).more (fun b h => .inl h) fun b h => ?_⟩,
    ⟨hb.os, hb.tape, hb.output, hb.size, fun b h1 _ => hb.block b h1, fun b h => .inl h, fun b h => ?_, fun b h => by simp [owns] at h⟩, Nat.le_refl _, fun i h => by simp at h⟩
  · rcases h with h | h
    · exact Nat.lt_of_lt_of_le (hO.imm b h) hb.size
    · exact (hB b h).2
  · rcases h with h | h
    · exact .inl h
    · exact .inr (.inr (hB b h).1)
/-- .. that hands back a value without an address. -/
theorem Gives.of0 {P : Program} {f : FuncId} {args : List FV} {r : FV} (h : ∀ w I vs, Imm w I → VRelL w I [] args vs → Calls P f vs.toArray w fun e w' => ∃ v, e = .returned v ∧ Below w.heap.size w w' ∧ ∀ I', VRel w' I' [] r v) : Gives P f args r :=
  Gives.of fun w I vs h1 h2 => (h w I vs h1 h2).mono fun e w' ⟨v, e1, e2, e3⟩ => ⟨v, e1, e2, fun _ => False, fun b hb => hb.elim, e3 _⟩

theorem Imm.on {w : World} {I : Nat → Prop} (hI : Imm w I) {n : Nat} {x : GV} {i : Nat} (h : gT[i]? = some (n, x)) : x.on w.heap[n]? := (hI.gl (n, x) (List.mem_of_getElem? h)).2

theorem isPow10 {w : World} {I : Nat → Prop} (hI : Imm w I) : Lib.TabIs Tryz.prog w "internal/strconv.uint64pow10" .u64 Lib.pow10Tab := by
  obtain ⟨t, fr, h⟩ := hI.on (n := 3) (x := .tab .u64 Lib.pow10Tab) (i := 3) (by kernel_rfl)
  have hg : Tryz.prog.globalNamed "internal/strconv.uint64pow10" = some 3 := by kernel_rfl
  simp only [Lib.TabIs, World.var?, hg, Option.bind_some, h]
theorem isSyntax {w : World} {I : Nat → Prop} (hI : Imm w I) : ∃ tp p, w.var? Tryz.prog "strconv.ErrSyntax" = some #[.iface tp p] := by
  obtain ⟨tp, p, t, fr, h⟩ := hI.on (n := 1) (x := .iface) (i := 1) rfl
  have hg : Tryz.prog.globalNamed "strconv.ErrSyntax" = some 1 := by kernel_rfl
  exact ⟨tp, p, by simp only [World.var?, hg, Option.bind_some, h]⟩
theorem isRange {w : World} {I : Nat → Prop} (hI : Imm w I) : ∃ tp p, w.var? Tryz.prog "strconv.ErrRange" = some #[.iface tp p] := by
  obtain ⟨tp, p, t, fr, h⟩ := hI.on (n := 2) (x := .iface) (i := 2) rfl
  have hg : Tryz.prog.globalNamed "strconv.ErrRange" = some 2 := by kernel_rfl
  exact ⟨tp, p, by simp only [World.var?, hg, Option.bind_some, h]⟩
theorem isMaxLen {w : World} {I : Nat → Prop} (hI : Imm w I) : ∃ m, w.cell? ⟨0, 0, none⟩ = some (.int .i64 m) := by
  obtain ⟨m, t, fr, h⟩ := hI.on (n := 0) (x := .int) (i := 0) rfl
  exact ⟨m, by rw [Lib.cell_of_heap h]; rfl⟩

/-! ### strconv -/
def laysItoa_ren : Go.Shelf.Ren := ⟨fun | 171 => 27 | 243 => 47 | 246 => 62 | 283 => 77 | 284 => 78 | 285 => 79 | 286 => 80 | 129 => 43 | 317 => 90 | 318 => 91 | 319 => 92 | 320 => 93 | 337 => 98 | 338 => 99 | n => n, fun | 3 => 3 | 9 => 9 | 2 => 2 | 4 => 4 | 171 => 138 | 0 => 0 | 53 => 103 | 37 => 64 | 5 => 5 | 173 => 140 | 212 => 151 | 51 => 101 | 20 => 20 | 213 => 152 | 46 => 82 | 232 => 163 | 233 => 164 | n => n, fun | 17 => 3 | 18 => 6 | 19 => 7 | n => n⟩
theorem laysItoa : Go.Proofs.LaysM.n171 Tryz.prog laysItoa_ren where
  mixed := by kernel_rfl
  f129 := Tryz.func43.trans (congrArg some (by kernel_rfl))
  f171 := Tryz.func27.trans (congrArg some (by kernel_rfl))
  f243 := Tryz.func47.trans (congrArg some (by kernel_rfl))
  f246 := Tryz.func62.trans (congrArg some (by kernel_rfl))
  f283 := Tryz.func77.trans (congrArg some (by kernel_rfl))
  f284 := Tryz.func78.trans (congrArg some (by kernel_rfl))
  f285 := Tryz.func79.trans (congrArg some (by kernel_rfl))
  f286 := Tryz.func80.trans (congrArg some (by kernel_rfl))
  f317 := Tryz.func90.trans (congrArg some (by kernel_rfl))
  f318 := Tryz.func91.trans (congrArg some (by kernel_rfl))
  f319 := Tryz.func92.trans (congrArg some (by kernel_rfl))
  f320 := Tryz.func93.trans (congrArg some (by kernel_rfl))
  f337 := Tryz.func98.trans (congrArg some (by kernel_rfl))
  f338 := Tryz.func99.trans (congrArg some (by kernel_rfl))
  t0 := Tryz.underlying0
  a0 := Tryz.isAgg0
  z0 := Tryz.sizeOf0
  v0 := Tryz.zeroValue0
  t2 := Tryz.underlying2
  a2 := Tryz.isAgg2
  z2 := Tryz.sizeOf2
  v2 := Tryz.zeroValue2
  t3 := Tryz.underlying3
  a3 := Tryz.isAgg3
  z3 := Tryz.sizeOf3
  v3 := Tryz.zeroValue3
  t4 := Tryz.underlying4
  a4 := Tryz.isAgg4
  z4 := Tryz.sizeOf4
  v4 := Tryz.zeroValue4
  t5 := Tryz.underlying5
  a5 := Tryz.isAgg5
  z5 := Tryz.sizeOf5
  v5 := Tryz.zeroValue5
  t9 := Tryz.underlying9
  a9 := Tryz.isAgg9
  z9 := Tryz.sizeOf9
  v9 := Tryz.zeroValue9
  t20 := Tryz.underlying20
  a20 := Tryz.isAgg20
  z20 := Tryz.sizeOf20
  v20 := Tryz.zeroValue20
  t37 := Tryz.underlying64
  a37 := Tryz.isAgg64
  z37 := Tryz.sizeOf64
  v37 := Tryz.zeroValue64
  t46 := Tryz.underlying82
  a46 := Tryz.isAgg82
  z46 := Tryz.sizeOf82
  v46 := Tryz.zeroValue82
  t51 := Tryz.underlying101
  a51 := Tryz.isAgg101
  z51 := Tryz.sizeOf101
  v51 := Tryz.zeroValue101
  t53 := Tryz.underlying103
  a53 := Tryz.isAgg103
  z53 := Tryz.sizeOf103
  v53 := Tryz.zeroValue103
  t171 := Tryz.underlying138
  a171 := Tryz.isAgg138
  z171 := Tryz.sizeOf138
  v171 := Tryz.zeroValue138
  t173 := Tryz.underlying140
  a173 := Tryz.isAgg140
  z173 := Tryz.sizeOf140
  v173 := Tryz.zeroValue140
  t212 := Tryz.underlying151
  a212 := Tryz.isAgg151
  z212 := Tryz.sizeOf151
  v212 := Tryz.zeroValue151
  t213 := Tryz.underlying152
  a213 := Tryz.isAgg152
  z213 := Tryz.sizeOf152
  t232 := Tryz.underlying163
  a232 := Tryz.isAgg163
  z232 := Tryz.sizeOf163
  v232 := Tryz.zeroValue163
  t233 := Tryz.underlying164
  a233 := Tryz.isAgg164
  z233 := Tryz.sizeOf164
  v233 := Tryz.zeroValue164
  g17 := by kernel_rfl
  g18 := by kernel_rfl
  g19 := by kernel_rfl
  i0 := by kernel_rfl
  i2 := by kernel_rfl
  i3 := by kernel_rfl
  i4 := by kernel_rfl
  i5 := by kernel_rfl
  i9 := by kernel_rfl
  i20 := by kernel_rfl
  i37 := by kernel_rfl
  i46 := by kernel_rfl
  i51 := by kernel_rfl
  i53 := by kernel_rfl
  i171 := by kernel_rfl
  i173 := by kernel_rfl
  i212 := by kernel_rfl
  i232 := by kernel_rfl
  i233 := by kernel_rfl
  m17 := by kernel_rfl
  m18 := by kernel_rfl
  m19 := by kernel_rfl
theorem itoa_ok (n : Int) (h0 : -9223372036854775808 ≤ n) (h1 : n ≤ 9223372036854775807) : Gives Tryz.prog 27 [.d (.int .i64 n)] (.d (.str (Lib.itoa n))) := Gives.of0 fun w I vs hI ha => by
  simp only [VRelL, VRel, DRel] at ha
  obtain ⟨_, _, rfl, rfl, rfl⟩ := ha
  refine (Any.strconv_Itoa laysItoa n h0 h1 w (isPow10 hI)).mono ?_
  rintro e w' ⟨rfl, k, os, rfl⟩
  exact ⟨_, rfl, ⟨rfl, rfl, rfl, by simp [Sort.grow], fun b hb => by
    show ((w.drewN k).heap ++ os)[b]? = _
    rw [Array.getElem?_append_left (by exact hb)]
    rfl⟩, fun _ => by simp only [VRel, DRel]⟩

/-- strconv.Atoi: the number, and whether there is no error. -/
def atoiP (l : List UInt8) : Int × Bool := match Lib.atoiAll l with
  | .ok v => (v, true)
  | .range => (Lib.atoiSat l, false)
  | _ => (0, false)
def laysAtoi_ren : Go.Shelf.Ren := ⟨fun | 172 => 30 | 244 => 55 | 245 => 56 | 247 => 71 | 279 => 72 | 280 => 73 | 281 => 74 | 282 => 75 | 287 => 87 | 316 => 88 | 171 => 27 | 205 => 89 | 321 => 96 | 322 => 97 | 243 => 47 | 246 => 62 | 283 => 77 | 284 => 78 | 285 => 79 | 286 => 80 | 129 => 43 | 317 => 90 | 318 => 91 | 319 => 92 | 320 => 93 | 337 => 98 | 338 => 99 | n => n, fun | 9 => 9 | 3 => 3 | 75 => 68 | 76 => 69 | 4 => 4 | 5 => 5 | 167 => 129 | 37 => 64 | 0 => 0 | 85 => 130 | 2 => 2 | 168 => 132 | 53 => 103 | 175 => 144 | 46 => 82 | 210 => 148 | 127 => 88 | 145 => 162 | 143 => 160 | 21 => 21 | 171 => 138 | 173 => 140 | 212 => 151 | 51 => 101 | 20 => 20 | 213 => 152 | 232 => 163 | 233 => 164 | 80 => 72 | n => n, fun | 15 => 1 | 16 => 2 | 17 => 3 | 18 => 6 | 19 => 7 | n => n⟩
theorem laysAtoi : Go.Proofs.LaysC.n172 Tryz.prog laysAtoi_ren where
  mixed := by kernel_rfl
  f129 := Tryz.func43.trans (congrArg some (by kernel_rfl))
  f171 := Tryz.func27.trans (congrArg some (by kernel_rfl))
  f172 := Tryz.func30.trans (congrArg some (by kernel_rfl))
  f205 := Tryz.func89.trans (congrArg some (by kernel_rfl))
  f243 := Tryz.func47.trans (congrArg some (by kernel_rfl))
  f244 := Tryz.func55.trans (congrArg some (by kernel_rfl))
  f245 := Tryz.func56.trans (congrArg some (by kernel_rfl))
  f246 := Tryz.func62.trans (congrArg some (by kernel_rfl))
  f247 := Tryz.func71.trans (congrArg some (by kernel_rfl))
  f279 := Tryz.func72.trans (congrArg some (by kernel_rfl))
  f280 := Tryz.func73.trans (congrArg some (by kernel_rfl))
  f281 := Tryz.func74.trans (congrArg some (by kernel_rfl))
  f282 := Tryz.func75.trans (congrArg some (by kernel_rfl))
  f283 := Tryz.func77.trans (congrArg some (by kernel_rfl))
  f284 := Tryz.func78.trans (congrArg some (by kernel_rfl))
  f285 := Tryz.func79.trans (congrArg some (by kernel_rfl))
  f286 := Tryz.func80.trans (congrArg some (by kernel_rfl))
  f287 := Tryz.func87.trans (congrArg some (by kernel_rfl))
  f316 := Tryz.func88.trans (congrArg some (by kernel_rfl))
  f317 := Tryz.func90.trans (congrArg some (by kernel_rfl))
  f318 := Tryz.func91.trans (congrArg some (by kernel_rfl))
  f319 := Tryz.func92.trans (congrArg some (by kernel_rfl))
  f320 := Tryz.func93.trans (congrArg some (by kernel_rfl))
  f321 := Tryz.func96.trans (congrArg some (by kernel_rfl))
  f322 := Tryz.func97.trans (congrArg some (by kernel_rfl))
  f337 := Tryz.func98.trans (congrArg some (by kernel_rfl))
  f338 := Tryz.func99.trans (congrArg some (by kernel_rfl))
  t0 := Tryz.underlying0
  a0 := Tryz.isAgg0
  z0 := Tryz.sizeOf0
  v0 := Tryz.zeroValue0
  t2 := Tryz.underlying2
  a2 := Tryz.isAgg2
  z2 := Tryz.sizeOf2
  v2 := Tryz.zeroValue2
  t3 := Tryz.underlying3
  a3 := Tryz.isAgg3
  z3 := Tryz.sizeOf3
  v3 := Tryz.zeroValue3
  t4 := Tryz.underlying4
  a4 := Tryz.isAgg4
  z4 := Tryz.sizeOf4
  v4 := Tryz.zeroValue4
  t5 := Tryz.underlying5
  a5 := Tryz.isAgg5
  z5 := Tryz.sizeOf5
  v5 := Tryz.zeroValue5
  t9 := Tryz.underlying9
  a9 := Tryz.isAgg9
  z9 := Tryz.sizeOf9
  v9 := Tryz.zeroValue9
  t20 := Tryz.underlying20
  a20 := Tryz.isAgg20
  z20 := Tryz.sizeOf20
  v20 := Tryz.zeroValue20
  t21 := Tryz.underlying21
  a21 := Tryz.isAgg21
  z21 := Tryz.sizeOf21
  v21 := Tryz.zeroValue21
  t37 := Tryz.underlying64
  a37 := Tryz.isAgg64
  z37 := Tryz.sizeOf64
  v37 := Tryz.zeroValue64
  t46 := Tryz.underlying82
  a46 := Tryz.isAgg82
  z46 := Tryz.sizeOf82
  v46 := Tryz.zeroValue82
  t51 := Tryz.underlying101
  a51 := Tryz.isAgg101
  z51 := Tryz.sizeOf101
  v51 := Tryz.zeroValue101
  t53 := Tryz.underlying103
  a53 := Tryz.isAgg103
  z53 := Tryz.sizeOf103
  v53 := Tryz.zeroValue103
  t75 := Tryz.underlying68
  a75 := Tryz.isAgg68
  z75 := Tryz.sizeOf68
  v75 := Tryz.zeroValue68
  t76 := Tryz.underlying69
  a76 := Tryz.isAgg69
  z76 := Tryz.sizeOf69
  v76 := Tryz.zeroValue69
  t85 := Tryz.underlying130
  a85 := Tryz.isAgg130
  z85 := Tryz.sizeOf130
  v85 := Tryz.zeroValue130
  t127 := Tryz.underlying88
  a127 := Tryz.isAgg88
  z127 := Tryz.sizeOf88
  v127 := Tryz.zeroValue88
  t143 := Tryz.underlying160
  a143 := Tryz.isAgg160
  z143 := Tryz.sizeOf160
  v143 := Tryz.zeroValue160
  t145 := Tryz.underlying162
  a145 := Tryz.isAgg162
  z145 := Tryz.sizeOf162
  v145 := Tryz.zeroValue162
  t167 := Tryz.underlying129
  a167 := Tryz.isAgg129
  z167 := Tryz.sizeOf129
  v167 := Tryz.zeroValue129
  t168 := Tryz.underlying132
  a168 := Tryz.isAgg132
  z168 := Tryz.sizeOf132
  v168 := Tryz.zeroValue132
  t171 := Tryz.underlying138
  a171 := Tryz.isAgg138
  z171 := Tryz.sizeOf138
  v171 := Tryz.zeroValue138
  t173 := Tryz.underlying140
  a173 := Tryz.isAgg140
  z173 := Tryz.sizeOf140
  v173 := Tryz.zeroValue140
  t175 := Tryz.underlying144
  a175 := Tryz.isAgg144
  z175 := Tryz.sizeOf144
  v175 := Tryz.zeroValue144
  t210 := Tryz.underlying148
  a210 := Tryz.isAgg148
  z210 := Tryz.sizeOf148
  v210 := Tryz.zeroValue148
  t212 := Tryz.underlying151
  a212 := Tryz.isAgg151
  z212 := Tryz.sizeOf151
  v212 := Tryz.zeroValue151
  t213 := Tryz.underlying152
  a213 := Tryz.isAgg152
  z213 := Tryz.sizeOf152
  t232 := Tryz.underlying163
  a232 := Tryz.isAgg163
  z232 := Tryz.sizeOf163
  v232 := Tryz.zeroValue163
  t233 := Tryz.underlying164
  a233 := Tryz.isAgg164
  z233 := Tryz.sizeOf164
  v233 := Tryz.zeroValue164
  g15 := by kernel_rfl
  g16 := by kernel_rfl
  g17 := by kernel_rfl
  g18 := by kernel_rfl
  g19 := by kernel_rfl
  t80 := Tryz.underlying72
  a80 := Tryz.isAgg72
  z80 := Tryz.sizeOf72
  v80 := Tryz.zeroValue72
  i0 := by kernel_rfl
  i2 := by kernel_rfl
  i3 := by kernel_rfl
  i4 := by kernel_rfl
  i5 := by kernel_rfl
  i9 := by kernel_rfl
  i20 := by kernel_rfl
  i21 := by kernel_rfl
  i37 := by kernel_rfl
  i46 := by kernel_rfl
  i51 := by kernel_rfl
  i53 := by kernel_rfl
  i75 := by kernel_rfl
  i76 := by kernel_rfl
  i80 := by kernel_rfl
  i85 := by kernel_rfl
  i127 := by kernel_rfl
  i143 := by kernel_rfl
  i145 := by kernel_rfl
  i167 := by kernel_rfl
  i168 := by kernel_rfl
  i171 := by kernel_rfl
  i173 := by kernel_rfl
  i175 := by kernel_rfl
  i210 := by kernel_rfl
  i212 := by kernel_rfl
  i232 := by kernel_rfl
  i233 := by kernel_rfl
  m15 := by kernel_rfl
  m16 := by kernel_rfl
  m17 := by kernel_rfl
  m18 := by kernel_rfl
  m19 := by kernel_rfl
  c0 := by kernel_rfl
  c2 := by kernel_rfl
  c3 := by kernel_rfl
  c4 := by kernel_rfl
  c5 := by kernel_rfl
  c9 := by kernel_rfl
  c20 := by kernel_rfl
  c21 := by kernel_rfl
  c37 := by kernel_rfl
  c46 := by kernel_rfl
  c51 := by kernel_rfl
  c53 := by kernel_rfl
  c75 := by kernel_rfl
  c76 := by kernel_rfl
  c80 := by kernel_rfl
  c85 := by kernel_rfl
  c127 := by kernel_rfl
  c143 := by kernel_rfl
  c145 := by kernel_rfl
  c167 := by kernel_rfl
  c168 := by kernel_rfl
  c171 := by kernel_rfl
  c173 := by kernel_rfl
  c175 := by kernel_rfl
  c210 := by kernel_rfl
  c212 := by kernel_rfl
  c213 := by kernel_rfl
  c232 := by kernel_rfl
  c233 := by kernel_rfl
theorem atoi_ok (l : List UInt8) (h : l.length ≤ 281474976710656) : Gives Tryz.prog 30 [.d (.str l)] (.tup [.d (.int .i64 (atoiP l).1), .d (if (atoiP l).2 then .nili else .any)]) := Gives.of0 fun w I vs hI ha => by
  simp only [VRelL, VRel, DRel] at ha
  obtain ⟨_, _, rfl, rfl, rfl⟩ := ha
  have hs : (⟨l.toArray⟩ : ByteArray).size = l.length := by simp [ByteArray.size]
  rcases hl : Lib.atoiAll l with v | _ | _
  · refine (Any.strconv_Atoi_ok laysAtoi ⟨l.toArray⟩ (by omega) v (by simpa using hl) w).mono ?_
    rintro e w' ⟨rfl, hw⟩
    refine ⟨_, rfl, ?_, fun _ => ?_⟩
    · rcases hw with rfl | ⟨t, rfl⟩
      · exact Below.refl _ _
      · exact Lib.bytesWorld_below _ _ _
    · simp [VRel, VRelL, DRel, atoiP, hl]
  · obtain ⟨tp, p, hv⟩ := isSyntax hI
    refine (Any.strconv_Atoi_syntax_var laysAtoi ⟨l.toArray⟩ (by omega) (by simpa using hl) tp p w hv).mono ?_
    rintro e w' ⟨N, rfl, _, _, hb⟩
    exact ⟨_, rfl, hb, fun _ => by
      simp only [VRel, VRelL, DRel, atoiP, hl, Bool.false_eq_true, if_false]
      exact ⟨_, rfl, _, _, rfl, rfl, _, _, rfl, ⟨_, _, rfl⟩, rfl⟩⟩
  · obtain ⟨tp, p, hv⟩ := isRange hI
    refine (Any.strconv_Atoi_range_var laysAtoi ⟨l.toArray⟩ (by omega) (by simpa using hl) tp p w hv).mono ?_
    rintro e w' ⟨N, rfl, _, _, hb⟩
    exact ⟨_, rfl, hb, fun _ => by
      simp only [VRel, VRelL, DRel, atoiP, hl, Bool.false_eq_true, if_false]
      exact ⟨_, rfl, _, _, rfl, rfl, _, _, rfl, ⟨_, _, rfl⟩, rfl⟩⟩

end Go.Proofs.YtjlamhilnkadcaaGreatDoor.Pay
