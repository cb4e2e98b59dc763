/- Library functions, by the shelf's contracts: strings.Repeat, Split, over data. No statement of the seed is proved here. -/
import Derived.Test.YtjlamhilnkadcaaGreatDoorStA
import Derived.Shelf.Strings.Repeat
import Derived.Shelf.Strings.Split
namespace Go.Proofs.YtjlamhilnkadcaaGreatDoor.Pay
open Go Go.RowKit Go.Shelf Go.Proofs
set_option linter.unusedVariables false
set_option linter.unusedSimpArgs false

/-! ### strings -/
def laysRepeat_ren : Go.Shelf.Ren := ⟨fun | 105 => 28 | 212 => 48 | 99 => 49 | 165 => 50 | 166 => 13 | 170 => 51 | 169 => 15 | 263 => 63 | 264 => 64 | 206 => 65 | 240 => 26 | 241 => 66 | 276 => 46 | 277 => 81 | n => n, fun | 9 => 9 | 3 => 3 | 4 => 4 | 20 => 20 | 0 => 0 | 46 => 82 | 109 => 107 | 5 => 5 | 72 => 66 | 76 => 69 | 51 => 101 | 146 => 122 | 53 => 103 | 148 => 124 | 70 => 63 | 37 => 64 | 75 => 68 | 127 => 88 | 164 => 105 | 80 => 72 | n => n, fun | n => n⟩
theorem laysRepeat : Go.Proofs.Lays.n105 Tryz.prog laysRepeat_ren where
  mixed := by kernel_rfl
  f99 := Tryz.func49.trans (congrArg some (by kernel_rfl))
  f105 := Tryz.func28.trans (congrArg some (by kernel_rfl))
  f165 := Tryz.func50.trans (congrArg some (by kernel_rfl))
  f166 := Tryz.func13.trans (congrArg some (by kernel_rfl))
  f169 := Tryz.func15.trans (congrArg some (by kernel_rfl))
  f170 := Tryz.func51.trans (congrArg some (by kernel_rfl))
  f206 := Tryz.func65.trans (congrArg some (by kernel_rfl))
  f212 := Tryz.func48.trans (congrArg some (by kernel_rfl))
  f240 := Tryz.func26.trans (congrArg some (by kernel_rfl))
  f241 := Tryz.func66.trans (congrArg some (by kernel_rfl))
  f263 := Tryz.func63.trans (congrArg some (by kernel_rfl))
  f264 := Tryz.func64.trans (congrArg some (by kernel_rfl))
  f276 := Tryz.func46.trans (congrArg some (by kernel_rfl))
  f277 := Tryz.func81.trans (congrArg some (by kernel_rfl))
  t0 := Tryz.underlying0
  a0 := Tryz.isAgg0
  z0 := Tryz.sizeOf0
  v0 := Tryz.zeroValue0
  t3 := Tryz.underlying3
  a3 := Tryz.isAgg3
  z3 := Tryz.sizeOf3
  v3 := Tryz.zeroValue3
  t4 := Tryz.underlying4
  a4 := Tryz.isAgg4
  z4 := Tryz.sizeOf4
  v4 := Tryz.zeroValue4
  t5 := Tryz.underlying5
  a5 := Tryz.isAgg5
  z5 := Tryz.sizeOf5
  v5 := Tryz.zeroValue5
  t9 := Tryz.underlying9
  a9 := Tryz.isAgg9
  z9 := Tryz.sizeOf9
  v9 := Tryz.zeroValue9
  t20 := Tryz.underlying20
  a20 := Tryz.isAgg20
  z20 := Tryz.sizeOf20
  v20 := Tryz.zeroValue20
  t37 := Tryz.underlying64
  a37 := Tryz.isAgg64
  z37 := Tryz.sizeOf64
  v37 := Tryz.zeroValue64
  t46 := Tryz.underlying82
  a46 := Tryz.isAgg82
  z46 := Tryz.sizeOf82
  v46 := Tryz.zeroValue82
  t51 := Tryz.underlying101
  a51 := Tryz.isAgg101
  z51 := Tryz.sizeOf101
  v51 := Tryz.zeroValue101
  t53 := Tryz.underlying103
  a53 := Tryz.isAgg103
  z53 := Tryz.sizeOf103
  v53 := Tryz.zeroValue103
  t70 := Tryz.underlying63
  a70 := Tryz.isAgg63
  z70 := Tryz.sizeOf63
  v70 := Tryz.zeroValue63
  t72 := Tryz.underlying66
  a72 := Tryz.isAgg66
  z72 := Tryz.sizeOf66
  v72 := Tryz.zeroValue66
  t75 := Tryz.underlying68
  a75 := Tryz.isAgg68
  z75 := Tryz.sizeOf68
  v75 := Tryz.zeroValue68
  t76 := Tryz.underlying69
  a76 := Tryz.isAgg69
  z76 := Tryz.sizeOf69
  v76 := Tryz.zeroValue69
  t109 := Tryz.underlying107
  a109 := Tryz.isAgg107
  z109 := Tryz.sizeOf107
  v109 := Tryz.zeroValue107
  t127 := Tryz.underlying88
  a127 := Tryz.isAgg88
  z127 := Tryz.sizeOf88
  v127 := Tryz.zeroValue88
  t146 := Tryz.underlying122
  a146 := Tryz.isAgg122
  z146 := Tryz.sizeOf122
  v146 := Tryz.zeroValue122
  t148 := Tryz.underlying124
  a148 := Tryz.isAgg124
  z148 := Tryz.sizeOf124
  v148 := Tryz.zeroValue124
  t164 := Tryz.underlying105
  a164 := Tryz.isAgg105
  z164 := Tryz.sizeOf105
  v164 := Tryz.zeroValue105
theorem laysRepeatX : Builder.Extra Tryz.prog laysRepeat_ren where
  sizeBuilder := by kernel_rfl
  liesBuilder := by kernel_rfl
  t5 := Tryz.underlying5
  a5 := Tryz.isAgg5
  z5 := Tryz.sizeOf5
  v5 := Tryz.zeroValue5
  infoByte := by kernel_rfl
  cellsByte := by kernel_rfl
  sizeByte := by kernel_rfl
  neB5 := by decide
theorem repeat_ok (l : List UInt8) (c : Nat) (h : l.length * c ≤ 140737488355328) (hc : c ≤ 9223372036854775807) : Gives Tryz.prog 28 [.d (.str l), .d (.int .i64 c)] (.d (.str (Lib.repeatL l c))) := Gives.of0 fun w I vs hI ha => by
  simp only [VRelL, VRel, DRel] at ha
  obtain ⟨_, _, rfl, rfl, _, _, rfl, rfl, rfl⟩ := ha
  have hs : (⟨l.toArray⟩ : ByteArray).size = l.length := by simp [ByteArray.size]
  match c, h, hc with
  | 0, _, _ =>
    refine (Any.strings_Repeat_zero laysRepeat ⟨l.toArray⟩ w).mono ?_
    rintro e w' ⟨rfl, rfl⟩
    exact ⟨_, rfl, Below.refl _ _, fun _ => by simp [VRel, DRel, Lib.repeatL]⟩
  | 1, _, _ =>
    refine (Any.strings_Repeat_one laysRepeat ⟨l.toArray⟩ w).mono ?_
    rintro e w' ⟨rfl, rfl⟩
    exact ⟨_, rfl, Below.refl _ _, fun _ => by simp [VRel, DRel, Lib.repeatL]⟩
  | c + 2, h, hc =>
    by_cases h0 : l = []
    · subst h0
      refine (Any.strings_Repeat_empty laysRepeat ⟨[].toArray⟩ (c + 2) w (by omega) hc (by simp [ByteArray.size])).mono ?_
      rintro e w' ⟨rfl, rfl⟩
      have he : ∀ n, Lib.repeatL [] n = [] := fun n => List.eq_nil_of_length_eq_zero (by rw [Lib.repeatL_length]; rfl)
      exact ⟨_, rfl, Below.refl _ _, fun _ => by simp [VRel, DRel, he]⟩
    · refine (Any.strings_Repeat_main laysRepeat laysRepeatX ⟨l.toArray⟩ (c + 2) w (by omega) hc (by rw [hs]; exact h) (by rw [hs]; exact List.length_pos_iff.2 h0)).mono ?_
      rintro e w' ⟨rfl, hb⟩
      exact ⟨_, rfl, hb, fun _ => by simp [VRel, DRel]⟩

def laysSplit_ren : Go.Shelf.Ren := ⟨fun | 146 => 16 | 221 => 29 | 268 => 52 | 138 => 53 | 143 => 54 | 195 => 67 | 197 => 68 | 218 => 69 | 219 => 70 | 260 => 82 | 217 => 83 | 225 => 84 | 224 => 85 | 267 => 86 | 266 => 94 | 314 => 95 | n => n, fun | 9 => 9 | 31 => 73 | 3 => 3 | 4 => 4 | 0 => 0 | 105 => 126 | 21 => 21 | 5 => 5 | 46 => 82 | 119 => 153 | 139 => 156 | 138 => 155 | 146 => 122 | 51 => 101 | n => n, fun | 1 => 0 | 3 => 4 | 4 => 5 | n => n⟩
theorem laysSplit : Go.Proofs.Lays.n146 Tryz.prog laysSplit_ren where
  mixed := by kernel_rfl
  f138 := Tryz.func53.trans (congrArg some (by kernel_rfl))
  f143 := Tryz.func54.trans (congrArg some (by kernel_rfl))
  f146 := Tryz.func16.trans (congrArg some (by kernel_rfl))
  f195 := Tryz.func67.trans (congrArg some (by kernel_rfl))
  f197 := Tryz.func68.trans (congrArg some (by kernel_rfl))
  f217 := Tryz.func83.trans (congrArg some (by kernel_rfl))
  f218 := Tryz.func69.trans (congrArg some (by kernel_rfl))
  f219 := Tryz.func70.trans (congrArg some (by kernel_rfl))
  f221 := Tryz.func29.trans (congrArg some (by kernel_rfl))
  f224 := Tryz.func85.trans (congrArg some (by kernel_rfl))
  f225 := Tryz.func84.trans (congrArg some (by kernel_rfl))
  f260 := Tryz.func82.trans (congrArg some (by kernel_rfl))
  f266 := Tryz.func94.trans (congrArg some (by kernel_rfl))
  f267 := Tryz.func86.trans (congrArg some (by kernel_rfl))
  f268 := Tryz.func52.trans (congrArg some (by kernel_rfl))
  f314 := Tryz.func95.trans (congrArg some (by kernel_rfl))
  t0 := Tryz.underlying0
  a0 := Tryz.isAgg0
  z0 := Tryz.sizeOf0
  v0 := Tryz.zeroValue0
  t3 := Tryz.underlying3
  a3 := Tryz.isAgg3
  z3 := Tryz.sizeOf3
  v3 := Tryz.zeroValue3
  t4 := Tryz.underlying4
  a4 := Tryz.isAgg4
  z4 := Tryz.sizeOf4
  v4 := Tryz.zeroValue4
  t5 := Tryz.underlying5
  a5 := Tryz.isAgg5
  z5 := Tryz.sizeOf5
  v5 := Tryz.zeroValue5
  t9 := Tryz.underlying9
  a9 := Tryz.isAgg9
  z9 := Tryz.sizeOf9
  v9 := Tryz.zeroValue9
  t21 := Tryz.underlying21
  a21 := Tryz.isAgg21
  z21 := Tryz.sizeOf21
  v21 := Tryz.zeroValue21
  t31 := Tryz.underlying73
  a31 := Tryz.isAgg73
  z31 := Tryz.sizeOf73
  v31 := Tryz.zeroValue73
  t46 := Tryz.underlying82
  a46 := Tryz.isAgg82
  z46 := Tryz.sizeOf82
  v46 := Tryz.zeroValue82
  t51 := Tryz.underlying101
  a51 := Tryz.isAgg101
  z51 := Tryz.sizeOf101
  v51 := Tryz.zeroValue101
  t105 := Tryz.underlying126
  a105 := Tryz.isAgg126
  z105 := Tryz.sizeOf126
  v105 := Tryz.zeroValue126
  t119 := Tryz.underlying153
  a119 := Tryz.isAgg153
  z119 := Tryz.sizeOf153
  t138 := Tryz.underlying155
  a138 := Tryz.isAgg155
  z138 := Tryz.sizeOf155
  v138 := Tryz.zeroValue155
  t139 := Tryz.underlying156
  a139 := Tryz.isAgg156
  z139 := Tryz.sizeOf156
  v139 := Tryz.zeroValue156
  t146 := Tryz.underlying122
  a146 := Tryz.isAgg122
  z146 := Tryz.sizeOf122
  v146 := Tryz.zeroValue122
  g1 := by kernel_rfl
  g3 := by kernel_rfl
  g4 := by kernel_rfl
theorem strsD : ∀ (xs : List ByteArray) (w : World) (I : Nat → Prop), DRelR w I 1 (xs.map fun x => D.str x.data.toList) (xs.map Value.string)
  | [], w, I => by simp [DRelR]
  | x :: xs, w, I => by
    simp only [List.map_cons, DRelR]
    exact ⟨.string x, _, rfl, rfl, by simp [DRel], strsD xs w I⟩
theorem splitS_ok (l sep : List UInt8) (h : l.length < 4294967281) (h1 : 1 ≤ sep.length) :
    Gives Tryz.prog 16 [.d (.str l), .d (.str sep)] (.d (.list 1 ((Lib.splitB ⟨sep.toArray⟩ 0 (Lib.countB ⟨l.toArray⟩ ⟨sep.toArray⟩) ⟨l.toArray⟩).map fun x => .str x.data.toList))) := Gives.of fun w I vs hI ha => by
  simp only [VRelL, VRel, DRel] at ha
  obtain ⟨_, _, rfl, rfl, _, _, rfl, rfl, rfl⟩ := ha
  have hs : ∀ l : List UInt8, (⟨l.toArray⟩ : ByteArray).size = l.length := fun l => by simp [ByteArray.size]
  obtain ⟨m, hm⟩ := isMaxLen hI
  refine (Any.strings_Split laysSplit (by kernel_rfl) ⟨l.toArray⟩ ⟨sep.toArray⟩ m w (by rw [hs]; exact h) hm (by rw [hs]; exact h1)).mono ?_
  rintro e w' ⟨rfl, rfl⟩
  refine ⟨_, rfl, (Below.refl _ w).alloc (Nat.le_refl _) _, fun b => b = w.heap.size, fun b hb => by subst hb; simp, ?_⟩
  generalize hxs : Lib.splitB ⟨sep.toArray⟩ 0 (Lib.countB ⟨l.toArray⟩ ⟨sep.toArray⟩) ⟨l.toArray⟩ = xs
  have hn : xs.length = Lib.countB ⟨l.toArray⟩ ⟨sep.toArray⟩ + 1 := by rw [← hxs]; exact Lib.splitB_all _ (by rw [hs]; exact h1) 0 _ _ rfl
  simp only [VRel, DRel, List.length_map]
  refine ⟨_, _, by rw [hn], by rw [hn]; exact Nat.le_refl _, .inr ⟨w.heap.size, 0, xs.map Value.string, rfl, .inr rfl, ?_, strsD _ _ _⟩⟩
  intro j v hv
  have hw : (w.alloc (.cells (xs.map Value.string).toArray 9)).heap[w.heap.size]? = some (.cells (xs.map Value.string).toArray 9 (0, 0)) := heap_alloc_new w _
  rw [show (0 + j) = j from Nat.zero_add j]
  exact (Lib.cell_of_heap hw j).trans (by simpa using hv)

end Go.Proofs.YtjlamhilnkadcaaGreatDoor.Pay
