/- Library functions, by the shelf's contracts: strconv.Itoa, Atoi, strings.Repeat, Split, over data. No statement of the seed is proved here. -/
import Derived.Test.YtjlamhilnkadcaaDoorPayP
import Derived.Shelf.Strconv.Itoa3
import Derived.Shelf.Strconv.ErrVarAll
import Derived.Shelf.Strings.Repeat
import Derived.Shelf.Strings.Split
namespace Go.Proofs.YtjlamhilnkadcaaDoor.Pay
open Go Go.RowKit Go.Shelf Go.Proofs
set_option linter.unusedVariables false
set_option linter.unusedSimpArgs false

/-- A function that makes new blocks alone, as a contract over data. -/
theorem Gives.of {P : Program} {f : FuncId} {args : List FV} {r : FV} (h : ∀ w I vs, Imm w I → VRelL w I [] args vs → Calls P f vs.toArray w fun e w' => ∃ v, e = .returned v ∧ Below w.heap.size w w' ∧
    ∃ B : Nat → Prop, (∀ b, B b → w.heap.size ≤ b ∧ b < w'.heap.size) ∧ VRel w' (fun b => I b ∨ B b) [] r v) : Gives P f args r := fun w I L vs ha hO => by
  have hL : L = [] := List.eq_nil_of_length_eq_zero hO.len
  subst hL
  refine (h w I vs hO.imm ha).mono fun e w' ⟨v, he, hb, B, hB, hv⟩ => ?_
  have hk : ∀ b, I b → w'.heap[b]? = w.heap[b]? := fun b hb' => hb.block b (hO.imm b hb')
  refine ⟨r, v, [], fun b => I b ∨ B b, [], he, ⟨rfl, rfl⟩, hv, ⟨rfl, fun i o l h => by simp at h, by simp [owns], fun b hb => by simp [owns] at hb, (hO.imm.mono hk hb.size).more (fun b h => .inl h) fun b h => ?_⟩,
    ⟨hb.os, hb.tape, hb.output, hb.size, fun b h1 _ => hb.block b h1, fun b h => .inl h, fun b h => ?_, fun b h => by simp [owns] at h⟩, Nat.le_refl _, fun i h => by simp at h⟩
  · rcases h with h | h
    · exact Nat.lt_of_lt_of_le (hO.imm b h) hb.size
    · exact (hB b h).2
  · rcases h with h | h
    · exact .inl h
    · exact .inr (.inr (hB b h).1)
/-- .. that hands back a value without an address. -/
theorem Gives.of0 {P : Program} {f : FuncId} {args : List FV} {r : FV} (h : ∀ w I vs, Imm w I → VRelL w I [] args vs → Calls P f vs.toArray w fun e w' => ∃ v, e = .returned v ∧ Below w.heap.size w w' ∧ ∀ I', VRel w' I' [] r v) : Gives P f args r :=
  Gives.of fun w I vs h1 h2 => (h w I vs h1 h2).mono fun e w' ⟨v, e1, e2, e3⟩ => ⟨v, e1, e2, fun _ => False, fun b hb => hb.elim, e3 _⟩

theorem Imm.on {w : World} {I : Nat → Prop} (hI : Imm w I) {n : Nat} {x : GV} {i : Nat} (h : gT[i]? = some (n, x)) : x.on w.heap[n]? := (hI.gl (n, x) (List.mem_of_getElem? h)).2

theorem isPow10 {w : World} {I : Nat → Prop} (hI : Imm w I) : Lib.TabIs Tryd.prog w "internal/strconv.uint64pow10" .u64 Lib.pow10Tab := by
  obtain ⟨t, fr, h⟩ := hI.on (n := 3) (x := .tab .u64 Lib.pow10Tab) (i := 3) (by kernel_rfl)
  have hg : Tryd.prog.globalNamed "internal/strconv.uint64pow10" = some 3 := by kernel_rfl
  simp only [Lib.TabIs, World.var?, hg, Option.bind_some, h]
theorem isSyntax {w : World} {I : Nat → Prop} (hI : Imm w I) : ∃ tp p, w.var? Tryd.prog "strconv.ErrSyntax" = some #[.iface tp p] := by
  obtain ⟨tp, p, t, fr, h⟩ := hI.on (n := 1) (x := .iface) (i := 1) rfl
  have hg : Tryd.prog.globalNamed "strconv.ErrSyntax" = some 1 := by kernel_rfl
  exact ⟨tp, p, by simp only [World.var?, hg, Option.bind_some, h]⟩
theorem isRange {w : World} {I : Nat → Prop} (hI : Imm w I) : ∃ tp p, w.var? Tryd.prog "strconv.ErrRange" = some #[.iface tp p] := by
  obtain ⟨tp, p, t, fr, h⟩ := hI.on (n := 2) (x := .iface) (i := 2) rfl
  have hg : Tryd.prog.globalNamed "strconv.ErrRange" = some 2 := by kernel_rfl
  exact ⟨tp, p, by simp only [World.var?, hg, Option.bind_some, h]⟩
theorem isMaxLen {w : World} {I : Nat → Prop} (hI : Imm w I) : ∃ m, w.cell? ⟨0, 0, none⟩ = some (.int .i64 m) := by
  obtain ⟨m, t, fr, h⟩ := hI.on (n := 0) (x := .int) (i := 0) rfl
  exact ⟨m, by rw [Lib.cell_of_heap h]; rfl⟩

/-! ### strconv -/
def laysItoa_ren : Go.Shelf.Ren := ⟨fun | 171 => 25 | 243 => 34 | 246 => 46 | 283 => 60 | 284 => 61 | 285 => 62 | 286 => 63 | 129 => 74 | 317 => 73 | 318 => 75 | 319 => 76 | 320 => 77 | 337 => 82 | 338 => 83 | n => n, fun | 3 => 3 | 9 => 9 | 2 => 2 | 4 => 4 | 171 => 98 | 0 => 0 | 53 => 86 | 37 => 41 | 5 => 5 | 173 => 101 | 212 => 112 | 51 => 83 | 20 => 20 | 213 => 113 | 46 => 70 | 232 => 125 | 233 => 126 | n => n, fun | 17 => 3 | 18 => 6 | 19 => 7 | n => n⟩
theorem laysItoa : Go.Proofs.LaysM.n171 Tryd.prog laysItoa_ren where
  mixed := by kernel_rfl
  f129 := Tryd.func74.trans (congrArg some (by kernel_rfl))
  f171 := Tryd.func25.trans (congrArg some (by kernel_rfl))
  f243 := Tryd.func34.trans (congrArg some (by kernel_rfl))
  f246 := Tryd.func46.trans (congrArg some (by kernel_rfl))
  f283 := Tryd.func60.trans (congrArg some (by kernel_rfl))
  f284 := Tryd.func61.trans (congrArg some (by kernel_rfl))
  f285 := Tryd.func62.trans (congrArg some (by kernel_rfl))
  f286 := Tryd.func63.trans (congrArg some (by kernel_rfl))
  f317 := Tryd.func73.trans (congrArg some (by kernel_rfl))
  f318 := Tryd.func75.trans (congrArg some (by kernel_rfl))
  f319 := Tryd.func76.trans (congrArg some (by kernel_rfl))
  f320 := Tryd.func77.trans (congrArg some (by kernel_rfl))
  f337 := Tryd.func82.trans (congrArg some (by kernel_rfl))
  f338 := Tryd.func83.trans (congrArg some (by kernel_rfl))
  t0 := Tryd.underlying0
  a0 := Tryd.isAgg0
  z0 := Tryd.sizeOf0
  v0 := Tryd.zeroValue0
  t2 := Tryd.underlying2
  a2 := Tryd.isAgg2
  z2 := Tryd.sizeOf2
  v2 := Tryd.zeroValue2
  t3 := Tryd.underlying3
  a3 := Tryd.isAgg3
  z3 := Tryd.sizeOf3
  v3 := Tryd.zeroValue3
  t4 := Tryd.underlying4
  a4 := Tryd.isAgg4
  z4 := Tryd.sizeOf4
  v4 := Tryd.zeroValue4
  t5 := Tryd.underlying5
  a5 := Tryd.isAgg5
  z5 := Tryd.sizeOf5
  v5 := Tryd.zeroValue5
  t9 := Tryd.underlying9
  a9 := Tryd.isAgg9
  z9 := Tryd.sizeOf9
  v9 := Tryd.zeroValue9
  t20 := Tryd.underlying20
  a20 := Tryd.isAgg20
  z20 := Tryd.sizeOf20
  v20 := Tryd.zeroValue20
  t37 := Tryd.underlying41
  a37 := Tryd.isAgg41
  z37 := Tryd.sizeOf41
  v37 := Tryd.zeroValue41
  t46 := Tryd.underlying70
  a46 := Tryd.isAgg70
  z46 := Tryd.sizeOf70
  v46 := Tryd.zeroValue70
  t51 := Tryd.underlying83
  a51 := Tryd.isAgg83
  z51 := Tryd.sizeOf83
  v51 := Tryd.zeroValue83
  t53 := Tryd.underlying86
  a53 := Tryd.isAgg86
  z53 := Tryd.sizeOf86
  v53 := Tryd.zeroValue86
  t171 := Tryd.underlying98
  a171 := Tryd.isAgg98
  z171 := Tryd.sizeOf98
  v171 := Tryd.zeroValue98
  t173 := Tryd.underlying101
  a173 := Tryd.isAgg101
  z173 := Tryd.sizeOf101
  v173 := Tryd.zeroValue101
  t212 := Tryd.underlying112
  a212 := Tryd.isAgg112
  z212 := Tryd.sizeOf112
  v212 := Tryd.zeroValue112
  t213 := Tryd.underlying113
  a213 := Tryd.isAgg113
  z213 := Tryd.sizeOf113
  t232 := Tryd.underlying125
  a232 := Tryd.isAgg125
  z232 := Tryd.sizeOf125
  v232 := Tryd.zeroValue125
  t233 := Tryd.underlying126
  a233 := Tryd.isAgg126
  z233 := Tryd.sizeOf126
  v233 := Tryd.zeroValue126
  g17 := by kernel_rfl
  g18 := by kernel_rfl
  g19 := by kernel_rfl
  i0 := by kernel_rfl
  i2 := by kernel_rfl
  i3 := by kernel_rfl
  i4 := by kernel_rfl
  i5 := by kernel_rfl
  i9 := by kernel_rfl
  i20 := by kernel_rfl
  i37 := by kernel_rfl
  i46 := by kernel_rfl
  i51 := by kernel_rfl
  i53 := by kernel_rfl
  i171 := by kernel_rfl
  i173 := by kernel_rfl
  i212 := by kernel_rfl
  i232 := by kernel_rfl
  i233 := by kernel_rfl
  m17 := by kernel_rfl
  m18 := by kernel_rfl
  m19 := by kernel_rfl
theorem itoa_ok (n : Int) (h0 : -9223372036854775808 ≤ n) (h1 : n ≤ 9223372036854775807) : Gives Tryd.prog 25 [.d (.int .i64 n)] (.d (.str (Lib.itoa n))) := Gives.of0 fun w I vs hI ha => by
  simp only [VRelL, VRel, DRel] at ha
  obtain ⟨_, _, rfl, rfl, rfl⟩ := ha
  refine (Any.strconv_Itoa laysItoa n h0 h1 w (isPow10 hI)).mono ?_
  rintro e w' ⟨rfl, k, os, rfl⟩
  exact ⟨_, rfl, ⟨rfl, rfl, rfl, by simp [Sort.grow], fun b hb => by
    show ((w.drewN k).heap ++ os)[b]? = _
    rw [Array.getElem?_append_left (by exact hb)]
    rfl⟩, fun _ => by simp only [VRel, DRel]⟩

/-- strconv.Atoi: the number, and whether there is no error. -/
def atoiP (l : List UInt8) : Int × Bool := match Lib.atoiAll l with
  | .ok v => (v, true)
  | .range => (Lib.atoiSat l, false)
  | _ => (0, false)
def laysAtoi_ren : Go.Shelf.Ren := ⟨fun | 172 => 31 | 244 => 44 | 245 => 45 | 247 => 55 | 279 => 56 | 280 => 57 | 281 => 58 | 282 => 59 | 287 => 70 | 316 => 71 | 171 => 25 | 205 => 72 | 321 => 80 | 322 => 81 | 243 => 34 | 246 => 46 | 283 => 60 | 284 => 61 | 285 => 62 | 286 => 63 | 129 => 74 | 317 => 73 | 318 => 75 | 319 => 76 | 320 => 77 | 337 => 82 | 338 => 83 | n => n, fun | 9 => 9 | 3 => 3 | 75 => 50 | 76 => 51 | 4 => 4 | 5 => 5 | 167 => 92 | 37 => 41 | 0 => 0 | 85 => 93 | 2 => 2 | 168 => 95 | 53 => 86 | 175 => 105 | 46 => 70 | 210 => 109 | 127 => 63 | 145 => 123 | 143 => 121 | 21 => 21 | 171 => 98 | 173 => 101 | 212 => 112 | 51 => 83 | 20 => 20 | 213 => 113 | 232 => 125 | 233 => 126 | 80 => 54 | n => n, fun | 15 => 1 | 16 => 2 | 17 => 3 | 18 => 6 | 19 => 7 | n => n⟩
theorem laysAtoi : Go.Proofs.LaysC.n172 Tryd.prog laysAtoi_ren where
  mixed := by kernel_rfl
  f129 := Tryd.func74.trans (congrArg some (by kernel_rfl))
  f171 := Tryd.func25.trans (congrArg some (by kernel_rfl))
  f172 := Tryd.func31.trans (congrArg some (by kernel_rfl))
  f205 := Tryd.func72.trans (congrArg some (by kernel_rfl))
  f243 := Tryd.func34.trans (congrArg some (by kernel_rfl))
  f244 := Tryd.func44.trans (congrArg some (by kernel_rfl))
  f245 := Tryd.func45.trans (congrArg some (by kernel_rfl))
  f246 := Tryd.func46.trans (congrArg some (by kernel_rfl))
  f247 := Tryd.func55.trans (congrArg some (by kernel_rfl))
  f279 := Tryd.func56.trans (congrArg some (by kernel_rfl))
  f280 := Tryd.func57.trans (congrArg some (by kernel_rfl))
  f281 := Tryd.func58.trans (congrArg some (by kernel_rfl))
  f282 := Tryd.func59.trans (congrArg some (by kernel_rfl))
  f283 := Tryd.func60.trans (congrArg some (by kernel_rfl))
  f284 := Tryd.func61.trans (congrArg some (by kernel_rfl))
  f285 := Tryd.func62.trans (congrArg some (by kernel_rfl))
  f286 := Tryd.func63.trans (congrArg some (by kernel_rfl))
  f287 := Tryd.func70.trans (congrArg some (by kernel_rfl))
  f316 := Tryd.func71.trans (congrArg some (by kernel_rfl))
  f317 := Tryd.func73.trans (congrArg some (by kernel_rfl))
  f318 := Tryd.func75.trans (congrArg some (by kernel_rfl))
  f319 := Tryd.func76.trans (congrArg some (by kernel_rfl))
  f320 := Tryd.func77.trans (congrArg some (by kernel_rfl))
  f321 := Tryd.func80.trans (congrArg some (by kernel_rfl))
  f322 := Tryd.func81.trans (congrArg some (by kernel_rfl))
  f337 := Tryd.func82.trans (congrArg some (by kernel_rfl))
  f338 := Tryd.func83.trans (congrArg some (by kernel_rfl))
  t0 := Tryd.underlying0
  a0 := Tryd.isAgg0
  z0 := Tryd.sizeOf0
  v0 := Tryd.zeroValue0
  t2 := Tryd.underlying2
  a2 := Tryd.isAgg2
  z2 := Tryd.sizeOf2
  v2 := Tryd.zeroValue2
  t3 := Tryd.underlying3
  a3 := Tryd.isAgg3
  z3 := Tryd.sizeOf3
  v3 := Tryd.zeroValue3
  t4 := Tryd.underlying4
  a4 := Tryd.isAgg4
  z4 := Tryd.sizeOf4
  v4 := Tryd.zeroValue4
  t5 := Tryd.underlying5
  a5 := Tryd.isAgg5
  z5 := Tryd.sizeOf5
  v5 := Tryd.zeroValue5
  t9 := Tryd.underlying9
  a9 := Tryd.isAgg9
  z9 := Tryd.sizeOf9
  v9 := Tryd.zeroValue9
  t20 := Tryd.underlying20
  a20 := Tryd.isAgg20
  z20 := Tryd.sizeOf20
  v20 := Tryd.zeroValue20
  t21 := Tryd.underlying21
  a21 := Tryd.isAgg21
  z21 := Tryd.sizeOf21
  v21 := Tryd.zeroValue21
  t37 := Tryd.underlying41
  a37 := Tryd.isAgg41
  z37 := Tryd.sizeOf41
  v37 := Tryd.zeroValue41
  t46 := Tryd.underlying70
  a46 := Tryd.isAgg70
  z46 := Tryd.sizeOf70
  v46 := Tryd.zeroValue70
  t51 := Tryd.underlying83
  a51 := Tryd.isAgg83
  z51 := Tryd.sizeOf83
  v51 := Tryd.zeroValue83
  t53 := Tryd.underlying86
  a53 := Tryd.isAgg86
  z53 := Tryd.sizeOf86
  v53 := Tryd.zeroValue86
  t75 := Tryd.underlying50
  a75 := Tryd.isAgg50
  z75 := Tryd.sizeOf50
  v75 := Tryd.zeroValue50
  t76 := Tryd.underlying51
  a76 := Tryd.isAgg51
  z76 := Tryd.sizeOf51
  v76 := Tryd.zeroValue51
  t85 := Tryd.underlying93
  a85 := Tryd.isAgg93
  z85 := Tryd.sizeOf93
  v85 := Tryd.zeroValue93
  t127 := Tryd.underlying63
  a127 := Tryd.isAgg63
  z127 := Tryd.sizeOf63
  v127 := Tryd.zeroValue63
  t143 := Tryd.underlying121
  a143 := Tryd.isAgg121
  z143 := Tryd.sizeOf121
  v143 := Tryd.zeroValue121
  t145 := Tryd.underlying123
  a145 := Tryd.isAgg123
  z145 := Tryd.sizeOf123
  v145 := Tryd.zeroValue123
  t167 := Tryd.underlying92
  a167 := Tryd.isAgg92
  z167 := Tryd.sizeOf92
  v167 := Tryd.zeroValue92
  t168 := Tryd.underlying95
  a168 := Tryd.isAgg95
  z168 := Tryd.sizeOf95
  v168 := Tryd.zeroValue95
  t171 := Tryd.underlying98
  a171 := Tryd.isAgg98
  z171 := Tryd.sizeOf98
  v171 := Tryd.zeroValue98
  t173 := Tryd.underlying101
  a173 := Tryd.isAgg101
  z173 := Tryd.sizeOf101
  v173 := Tryd.zeroValue101
  t175 := Tryd.underlying105
  a175 := Tryd.isAgg105
  z175 := Tryd.sizeOf105
  v175 := Tryd.zeroValue105
  t210 := Tryd.underlying109
  a210 := Tryd.isAgg109
  z210 := Tryd.sizeOf109
  v210 := Tryd.zeroValue109
  t212 := Tryd.underlying112
  a212 := Tryd.isAgg112
  z212 := Tryd.sizeOf112
  v212 := Tryd.zeroValue112
  t213 := Tryd.underlying113
  a213 := Tryd.isAgg113
  z213 := Tryd.sizeOf113
  t232 := Tryd.underlying125
  a232 := Tryd.isAgg125
  z232 := Tryd.sizeOf125
  v232 := Tryd.zeroValue125
  t233 := Tryd.underlying126
  a233 := Tryd.isAgg126
  z233 := Tryd.sizeOf126
  v233 := Tryd.zeroValue126
  g15 := by kernel_rfl
  g16 := by kernel_rfl
  g17 := by kernel_rfl
  g18 := by kernel_rfl
  g19 := by kernel_rfl
  t80 := Tryd.underlying54
  a80 := Tryd.isAgg54
  z80 := Tryd.sizeOf54
  v80 := Tryd.zeroValue54
  i0 := by kernel_rfl
  i2 := by kernel_rfl
  i3 := by kernel_rfl
  i4 := by kernel_rfl
  i5 := by kernel_rfl
  i9 := by kernel_rfl
  i20 := by kernel_rfl
  i21 := by kernel_rfl
  i37 := by kernel_rfl
  i46 := by kernel_rfl
  i51 := by kernel_rfl
  i53 := by kernel_rfl
  i75 := by kernel_rfl
  i76 := by kernel_rfl
  i80 := by kernel_rfl
  i85 := by kernel_rfl
  i127 := by kernel_rfl
  i143 := by kernel_rfl
  i145 := by kernel_rfl
  i167 := by kernel_rfl
  i168 := by kernel_rfl
  i171 := by kernel_rfl
  i173 := by kernel_rfl
  i175 := by kernel_rfl
  i210 := by kernel_rfl
  i212 := by kernel_rfl
  i232 := by kernel_rfl
  i233 := by kernel_rfl
  m15 := by kernel_rfl
  m16 := by kernel_rfl
  m17 := by kernel_rfl
  m18 := by kernel_rfl
  m19 := by kernel_rfl
  c0 := by kernel_rfl
  c2 := by kernel_rfl
  c3 := by kernel_rfl
  c4 := by kernel_rfl
  c5 := by kernel_rfl
  c9 := by kernel_rfl
  c20 := by kernel_rfl
  c21 := by kernel_rfl
  c37 := by kernel_rfl
  c46 := by kernel_rfl
  c51 := by kernel_rfl
  c53 := by kernel_rfl
  c75 := by kernel_rfl
  c76 := by kernel_rfl
  c80 := by kernel_rfl
  c85 := by kernel_rfl
  c127 := by kernel_rfl
  c143 := by kernel_rfl
  c145 := by kernel_rfl
  c167 := by kernel_rfl
  c168 := by kernel_rfl
  c171 := by kernel_rfl
  c173 := by kernel_rfl
  c175 := by kernel_rfl
  c210 := by kernel_rfl
  c212 := by kernel_rfl
  c213 := by kernel_rfl
  c232 := by kernel_rfl
  c233 := by kernel_rfl
theorem atoi_ok (l : List UInt8) (h : l.length ≤ 281474976710656) : Gives Tryd.prog 31 [.d (.str l)] (.tup [.d (.int .i64 (atoiP l).1), .d (if (atoiP l).2 then .nili else .any)]) := Gives.of0 fun w I vs hI ha => by
  simp only [VRelL, VRel, DRel] at ha
  obtain ⟨_, _, rfl, rfl, rfl⟩ := ha
  have hs : (⟨l.toArray⟩ : ByteArray).size = l.length := by simp [ByteArray.size]
  rcases hl : Lib.atoiAll l with v | _ | _
  · refine (Any.strconv_Atoi_ok laysAtoi ⟨l.toArray⟩ (by omega) v (by simpa using hl) w).mono ?_
    rintro e w' ⟨rfl, hw⟩
    refine ⟨_, rfl, ?_, fun _ => ?_⟩
    · rcases hw with rfl | ⟨t, rfl⟩
      · exact Below.refl _ _
      · exact Lib.bytesWorld_below _ _ _
    · simp [VRel, VRelL, DRel, atoiP, hl]
  · obtain ⟨tp, p, hv⟩ := isSyntax hI
    refine (Any.strconv_Atoi_syntax_var laysAtoi ⟨l.toArray⟩ (by omega) (by simpa using hl) tp p w hv).mono ?_
    rintro e w' ⟨N, rfl, _, _, hb⟩
    exact ⟨_, rfl, hb, fun _ => by
      simp only [VRel, VRelL, DRel, atoiP, hl, Bool.false_eq_true, if_false]
      exact ⟨_, rfl, _, _, rfl, rfl, _, _, rfl, ⟨_, _, rfl⟩, rfl⟩⟩
  · obtain ⟨tp, p, hv⟩ := isRange hI
    refine (Any.strconv_Atoi_range_var laysAtoi ⟨l.toArray⟩ (by omega) (by simpa using hl) tp p w hv).mono ?_
    rintro e w' ⟨N, rfl, _, _, hb⟩
    exact ⟨_, rfl, hb, fun _ => by
      simp only [VRel, VRelL, DRel, atoiP, hl, Bool.false_eq_true, if_false]
      exact ⟨_, rfl, _, _, rfl, rfl, _, _, rfl, ⟨_, _, rfl⟩, rfl⟩⟩

/-! ### strings -/
def laysRepeat_ren : Go.Shelf.Ren := ⟨fun | 105 => 26 | 212 => 35 | 99 => 36 | 165 => 37 | 166 => 16 | 170 => 38 | 169 => 18 | 263 => 47 | 264 => 48 | 206 => 49 | 240 => 24 | 241 => 50 | 276 => 33 | 277 => 64 | n => n, fun | 9 => 9 | 3 => 3 | 4 => 4 | 20 => 20 | 0 => 0 | 46 => 70 | 109 => 71 | 5 => 5 | 72 => 48 | 76 => 51 | 51 => 83 | 146 => 84 | 53 => 86 | 148 => 87 | 70 => 46 | 37 => 41 | 75 => 50 | 127 => 63 | 164 => 68 | 80 => 54 | n => n, fun | n => n⟩
theorem laysRepeat : Go.Proofs.Lays.n105 Tryd.prog laysRepeat_ren where
  mixed := by kernel_rfl
  f99 := Tryd.func36.trans (congrArg some (by kernel_rfl))
  f105 := Tryd.func26.trans (congrArg some (by kernel_rfl))
  f165 := Tryd.func37.trans (congrArg some (by kernel_rfl))
  f166 := Tryd.func16.trans (congrArg some (by kernel_rfl))
  f169 := Tryd.func18.trans (congrArg some (by kernel_rfl))
  f170 := Tryd.func38.trans (congrArg some (by kernel_rfl))
  f206 := Tryd.func49.trans (congrArg some (by kernel_rfl))
  f212 := Tryd.func35.trans (congrArg some (by kernel_rfl))
  f240 := Tryd.func24.trans (congrArg some (by kernel_rfl))
  f241 := Tryd.func50.trans (congrArg some (by kernel_rfl))
  f263 := Tryd.func47.trans (congrArg some (by kernel_rfl))
  f264 := Tryd.func48.trans (congrArg some (by kernel_rfl))
  f276 := Tryd.func33.trans (congrArg some (by kernel_rfl))
  f277 := Tryd.func64.trans (congrArg some (by kernel_rfl))
  t0 := Tryd.underlying0
  a0 := Tryd.isAgg0
  z0 := Tryd.sizeOf0
  v0 := Tryd.zeroValue0
  t3 := Tryd.underlying3
  a3 := Tryd.isAgg3
  z3 := Tryd.sizeOf3
  v3 := Tryd.zeroValue3
  t4 := Tryd.underlying4
  a4 := Tryd.isAgg4
  z4 := Tryd.sizeOf4
  v4 := Tryd.zeroValue4
  t5 := Tryd.underlying5
  a5 := Tryd.isAgg5
  z5 := Tryd.sizeOf5
  v5 := Tryd.zeroValue5
  t9 := Tryd.underlying9
  a9 := Tryd.isAgg9
  z9 := Tryd.sizeOf9
  v9 := Tryd.zeroValue9
  t20 := Tryd.underlying20
  a20 := Tryd.isAgg20
  z20 := Tryd.sizeOf20
  v20 := Tryd.zeroValue20
  t37 := Tryd.underlying41
  a37 := Tryd.isAgg41
  z37 := Tryd.sizeOf41
  v37 := Tryd.zeroValue41
  t46 := Tryd.underlying70
  a46 := Tryd.isAgg70
  z46 := Tryd.sizeOf70
  v46 := Tryd.zeroValue70
  t51 := Tryd.underlying83
  a51 := Tryd.isAgg83
  z51 := Tryd.sizeOf83
  v51 := Tryd.zeroValue83
  t53 := Tryd.underlying86
  a53 := Tryd.isAgg86
  z53 := Tryd.sizeOf86
  v53 := Tryd.zeroValue86
  t70 := Tryd.underlying46
  a70 := Tryd.isAgg46
  z70 := Tryd.sizeOf46
  v70 := Tryd.zeroValue46
  t72 := Tryd.underlying48
  a72 := Tryd.isAgg48
  z72 := Tryd.sizeOf48
  v72 := Tryd.zeroValue48
  t75 := Tryd.underlying50
  a75 := Tryd.isAgg50
  z75 := Tryd.sizeOf50
  v75 := Tryd.zeroValue50
  t76 := Tryd.underlying51
  a76 := Tryd.isAgg51
  z76 := Tryd.sizeOf51
  v76 := Tryd.zeroValue51
  t109 := Tryd.underlying71
  a109 := Tryd.isAgg71
  z109 := Tryd.sizeOf71
  v109 := Tryd.zeroValue71
  t127 := Tryd.underlying63
  a127 := Tryd.isAgg63
  z127 := Tryd.sizeOf63
  v127 := Tryd.zeroValue63
  t146 := Tryd.underlying84
  a146 := Tryd.isAgg84
  z146 := Tryd.sizeOf84
  v146 := Tryd.zeroValue84
  t148 := Tryd.underlying87
  a148 := Tryd.isAgg87
  z148 := Tryd.sizeOf87
  v148 := Tryd.zeroValue87
  t164 := Tryd.underlying68
  a164 := Tryd.isAgg68
  z164 := Tryd.sizeOf68
  v164 := Tryd.zeroValue68
theorem laysRepeatX : Builder.Extra Tryd.prog laysRepeat_ren where
  sizeBuilder := by kernel_rfl
  liesBuilder := by kernel_rfl
  t5 := Tryd.underlying5
  a5 := Tryd.isAgg5
  z5 := Tryd.sizeOf5
  v5 := Tryd.zeroValue5
  infoByte := by kernel_rfl
  cellsByte := by kernel_rfl
  sizeByte := by kernel_rfl
  neB5 := by decide
theorem repeat_ok (l : List UInt8) (c : Nat) (h : l.length * c ≤ 140737488355328) (hc : c ≤ 9223372036854775807) : Gives Tryd.prog 26 [.d (.str l), .d (.int .i64 c)] (.d (.str (Lib.repeatL l c))) := Gives.of0 fun w I vs hI ha => by
  simp only [VRelL, VRel, DRel] at ha
  obtain ⟨_, _, rfl, rfl, _, _, rfl, rfl, rfl⟩ := ha
  have hs : (⟨l.toArray⟩ : ByteArray).size = l.length := by simp [ByteArray.size]
  match c, h, hc with
  | 0, _, _ =>
    refine (Any.strings_Repeat_zero laysRepeat ⟨l.toArray⟩ w).mono ?_
    rintro e w' ⟨rfl, rfl⟩
    exact ⟨_, rfl, Below.refl _ _, fun _ => by simp [VRel, DRel, Lib.repeatL]⟩
  | 1, _, _ =>
    refine (Any.strings_Repeat_one laysRepeat ⟨l.toArray⟩ w).mono ?_
    rintro e w' ⟨rfl, rfl⟩
    exact ⟨_, rfl, Below.refl _ _, fun _ => by simp [VRel, DRel, Lib.repeatL]⟩
  | c + 2, h, hc =>
    by_cases h0 : l = []
    · subst h0
      refine (Any.strings_Repeat_empty laysRepeat ⟨[].toArray⟩ (c + 2) w (by omega) hc (by simp [ByteArray.size])).mono ?_
      rintro e w' ⟨rfl, rfl⟩
      have he : ∀ n, Lib.repeatL [] n = [] := fun n => List.eq_nil_of_length_eq_zero (by rw [Lib.repeatL_length]; rfl)
      exact ⟨_, rfl, Below.refl _ _, fun _ => by simp [VRel, DRel, he]⟩
    · refine (Any.strings_Repeat_main laysRepeat laysRepeatX ⟨l.toArray⟩ (c + 2) w (by omega) hc (by rw [hs]; exact h) (by rw [hs]; exact List.length_pos_iff.2 h0)).mono ?_
      rintro e w' ⟨rfl, hb⟩
      exact ⟨_, rfl, hb, fun _ => by simp [VRel, DRel]⟩

def laysSplit_ren : Go.Shelf.Ren := ⟨fun | 146 => 21 | 221 => 30 | 268 => 41 | 138 => 42 | 143 => 43 | 195 => 51 | 197 => 52 | 218 => 53 | 219 => 54 | 260 => 65 | 217 => 66 | 225 => 67 | 224 => 68 | 267 => 69 | 266 => 78 | 314 => 79 | n => n, fun | 9 => 9 | 31 => 58 | 3 => 3 | 4 => 4 | 0 => 0 | 105 => 89 | 21 => 21 | 5 => 5 | 46 => 70 | 119 => 115 | 139 => 118 | 138 => 117 | 146 => 84 | 51 => 83 | n => n, fun | 1 => 0 | 3 => 4 | 4 => 5 | n => n⟩
theorem laysSplit : Go.Proofs.Lays.n146 Tryd.prog laysSplit_ren where
  mixed := by kernel_rfl
  f138 := Tryd.func42.trans (congrArg some (by kernel_rfl))
  f143 := Tryd.func43.trans (congrArg some (by kernel_rfl))
  f146 := Tryd.func21.trans (congrArg some (by kernel_rfl))
  f195 := Tryd.func51.trans (congrArg some (by kernel_rfl))
  f197 := Tryd.func52.trans (congrArg some (by kernel_rfl))
  f217 := Tryd.func66.trans (congrArg some (by kernel_rfl))
  f218 := Tryd.func53.trans (congrArg some (by kernel_rfl))
  f219 := Tryd.func54.trans (congrArg some (by kernel_rfl))
  f221 := Tryd.func30.trans (congrArg some (by kernel_rfl))
  f224 := Tryd.func68.trans (congrArg some (by kernel_rfl))
  f225 := Tryd.func67.trans (congrArg some (by kernel_rfl))
  f260 := Tryd.func65.trans (congrArg some (by kernel_rfl))
  f266 := Tryd.func78.trans (congrArg some (by kernel_rfl))
  f267 := Tryd.func69.trans (congrArg some (by kernel_rfl))
  f268 := Tryd.func41.trans (congrArg some (by kernel_rfl))
  f314 := Tryd.func79.trans (congrArg some (by kernel_rfl))
  t0 := Tryd.underlying0
  a0 := Tryd.isAgg0
  z0 := Tryd.sizeOf0
  v0 := Tryd.zeroValue0
  t3 := Tryd.underlying3
  a3 := Tryd.isAgg3
  z3 := Tryd.sizeOf3
  v3 := Tryd.zeroValue3
  t4 := Tryd.underlying4
  a4 := Tryd.isAgg4
  z4 := Tryd.sizeOf4
  v4 := Tryd.zeroValue4
  t5 := Tryd.underlying5
  a5 := Tryd.isAgg5
  z5 := Tryd.sizeOf5
  v5 := Tryd.zeroValue5
  t9 := Tryd.underlying9
  a9 := Tryd.isAgg9
  z9 := Tryd.sizeOf9
  v9 := Tryd.zeroValue9
  t21 := Tryd.underlying21
  a21 := Tryd.isAgg21
  z21 := Tryd.sizeOf21
  v21 := Tryd.zeroValue21
  t31 := Tryd.underlying58
  a31 := Tryd.isAgg58
  z31 := Tryd.sizeOf58
  v31 := Tryd.zeroValue58
  t46 := Tryd.underlying70
  a46 := Tryd.isAgg70
  z46 := Tryd.sizeOf70
  v46 := Tryd.zeroValue70
  t51 := Tryd.underlying83
  a51 := Tryd.isAgg83
  z51 := Tryd.sizeOf83
  v51 := Tryd.zeroValue83
  t105 := Tryd.underlying89
  a105 := Tryd.isAgg89
  z105 := Tryd.sizeOf89
  v105 := Tryd.zeroValue89
  t119 := Tryd.underlying115
  a119 := Tryd.isAgg115
  z119 := Tryd.sizeOf115
  t138 := Tryd.underlying117
  a138 := Tryd.isAgg117
  z138 := Tryd.sizeOf117
  v138 := Tryd.zeroValue117
  t139 := Tryd.underlying118
  a139 := Tryd.isAgg118
  z139 := Tryd.sizeOf118
  v139 := Tryd.zeroValue118
  t146 := Tryd.underlying84
  a146 := Tryd.isAgg84
  z146 := Tryd.sizeOf84
  v146 := Tryd.zeroValue84
  g1 := by kernel_rfl
  g3 := by kernel_rfl
  g4 := by kernel_rfl
theorem strsD : ∀ (xs : List ByteArray) (w : World) (I : Nat → Prop), DRelR w I 1 (xs.map fun x => D.str x.data.toList) (xs.map Value.string)
  | [], w, I => by simp [DRelR]
  | x :: xs, w, I => by
    simp only [List.map_cons, DRelR]
    exact ⟨.string x, _, rfl, rfl, by simp [DRel], strsD xs w I⟩
theorem split_ok (l sep : List UInt8) (h : l.length < 4294967281) (h1 : 1 ≤ sep.length) :
    Gives Tryd.prog 21 [.d (.str l), .d (.str sep)] (.d (.list 1 ((Lib.splitB ⟨sep.toArray⟩ 0 (Lib.countB ⟨l.toArray⟩ ⟨sep.toArray⟩) ⟨l.toArray⟩).map fun x => .str x.data.toList))) := Gives.of fun w I vs hI ha => by
  simp only [VRelL, VRel, DRel] at ha
  obtain ⟨_, _, rfl, rfl, _, _, rfl, rfl, rfl⟩ := ha
  have hs : ∀ l : List UInt8, (⟨l.toArray⟩ : ByteArray).size = l.length := fun l => by simp [ByteArray.size]
  obtain ⟨m, hm⟩ := isMaxLen hI
  refine (Any.strings_Split laysSplit (by kernel_rfl) ⟨l.toArray⟩ ⟨sep.toArray⟩ m w (by rw [hs]; exact h) hm (by rw [hs]; exact h1)).mono ?_
  rintro e w' ⟨rfl, rfl⟩
  refine ⟨_, rfl, (Below.refl _ w).alloc (Nat.le_refl _) _, fun b => b = w.heap.size, fun b hb => by subst hb; simp, ?_⟩
  generalize hxs : Lib.splitB ⟨sep.toArray⟩ 0 (Lib.countB ⟨l.toArray⟩ ⟨sep.toArray⟩) ⟨l.toArray⟩ = xs
  have hn : xs.length = Lib.countB ⟨l.toArray⟩ ⟨sep.toArray⟩ + 1 := by rw [← hxs]; exact Lib.splitB_all _ (by rw [hs]; exact h1) 0 _ _ rfl
  simp only [VRel, DRel, List.length_map]
  refine ⟨_, _, by rw [hn], by rw [hn]; exact Nat.le_refl _, .inr ⟨w.heap.size, 0, xs.map Value.string, rfl, .inr rfl, ?_, strsD _ _ _⟩⟩
  intro j v hv
  have hw : (w.alloc (.cells (xs.map Value.string).toArray 9)).heap[w.heap.size]? = some (.cells (xs.map Value.string).toArray 9 (0, 0)) := heap_alloc_new w _
  rw [show (0 + j) = j from Nat.zero_add j]
  exact (Lib.cell_of_heap hw j).trans (by simpa using hv)

end Go.Proofs.YtjlamhilnkadcaaDoor.Pay
