/- The table of types. Written by tab.py. -/
import Derived.Test.YtjlamhilnkadcaaGreatDoorPayY
import Derived.Test.YtjlamhilnkadcaaGreatDoorProg
import Derived.KernelRfl
namespace Go.Proofs.YtjlamhilnkadcaaGreatDoor.Pay
open Go Go.Proofs
set_option maxRecDepth 100000
def lookT : List (Nat × TI) → Nat → Option TI
  | [], _ => none
  | (s, v) :: r, t => if s = t then some v else lookT r t
def AllT (P : Program) : List (Nat × TI) → Prop
  | [] => True
  | p :: r => TIOk P p.1 p.2 ∧ AllT P r
theorem allT {P : Program} : ∀ {l : List (Nat × TI)} {t : Nat} {i : TI}, AllT P l → lookT l t = some i → TIOk P t i
  | [], _, _, _, h => by simp [lookT] at h
  | (s, v) :: r, t, i, ha, h => by
    unfold lookT at h
    by_cases hs : s = t
    · rw [if_pos hs] at h; cases h; subst hs; exact ha.1
    · rw [if_neg hs] at h; exact allT ha.2 h
theorem TIOk.of {P : Program} {t : Nat} {i : TI} (hk : TKOk P t i.kind) (h : (P.info? t).isSome = true := by kernel_rfl) (h1 : ((P.info? t).get h).size = i.size := by kernel_rfl) (h2 : ((P.info? t).get h).bytes = i.bytes := by kernel_rfl)
    (h3 : ((P.info? t).get h).zero.isSome = true := by kernel_rfl) (h4 : ofLeaves (((P.info? t).get h).zero.get h3).cells.toList = some i.zero := by kernel_rfl) (h5 : (((P.info? t).get h).zero.get h3).cells.size = i.size := by kernel_rfl) (h6 : (i.ag || (((P.info? t).get h).zero.get h3).oneCell') = true := by kernel_rfl) : TIOk P t i :=
  ⟨hk, ⟨_, _, (Option.some_get h).symm, h1, h2, (Option.some_get h3).symm, h4, h5⟩, fun ha => ⟨_, _, (Option.some_get h).symm, (Option.some_get h3).symm, by rw [ha] at h6; exact h6⟩⟩
def ti2 : TI := ⟨.int .i64, 1, 8, [.int .i64 0]⟩
theorem tiok2 : TIOk Tryz.prog 2 ti2 := TIOk.of (Tryz.underlying2)
def ti3 : TI := ⟨.int .i64, 1, 8, [.int .i64 0]⟩
theorem tiok3 : TIOk Tryz.prog 3 ti3 := TIOk.of (Tryz.underlying3)
def ti4 : TI := ⟨.bool, 1, 1, [.bool false]⟩
theorem tiok4 : TIOk Tryz.prog 4 ti4 := TIOk.of (Tryz.underlying4)
def ti5 : TI := ⟨.int .u8, 1, 1, [.int .u8 0]⟩
theorem tiok5 : TIOk Tryz.prog 5 ti5 := TIOk.of (Tryz.underlying5)
def ti6 : TI := ⟨.int .u8, 1, 1, [.int .u8 0]⟩
theorem tiok6 : TIOk Tryz.prog 6 ti6 := TIOk.of (Tryz.underlying6)
def ti7 : TI := ⟨.struct [(0, 2), (1, 3), (2, 4), (3, 6)], 4, 24, [.int .i64 0, .int .i64 0, .bool false, .int .u8 0]⟩
theorem tiok7 : TIOk Tryz.prog 7 ti7 := TIOk.of ⟨_, Tryz.underlying7, rfl⟩
def ti8 : TI := ⟨.struct [(0, 2), (1, 3), (2, 4), (3, 6)], 4, 24, [.int .i64 0, .int .i64 0, .bool false, .int .u8 0]⟩
theorem tiok8 : TIOk Tryz.prog 8 ti8 := TIOk.of ⟨_, Tryz.underlying8, rfl⟩
def ti9 : TI := ⟨.str, 1, 16, [.str []]⟩
theorem tiok9 : TIOk Tryz.prog 9 ti9 := TIOk.of (Tryz.underlying9)
def ti10 : TI := ⟨.str, 1, 16, [.str []]⟩
theorem tiok10 : TIOk Tryz.prog 10 ti10 := TIOk.of (Tryz.underlying10)
def ti11 : TI := ⟨.str, 1, 16, [.str []]⟩
theorem tiok11 : TIOk Tryz.prog 11 ti11 := TIOk.of (Tryz.underlying11)
def ti12 : TI := ⟨.int .u64, 1, 8, [.int .u64 0]⟩
theorem tiok12 : TIOk Tryz.prog 12 ti12 := TIOk.of (Tryz.underlying12)
def ti13 : TI := ⟨.struct [(0, 9), (1, 12)], 2, 24, [.str [], .int .u64 0]⟩
theorem tiok13 : TIOk Tryz.prog 13 ti13 := TIOk.of ⟨_, Tryz.underlying13, rfl⟩
def ti14 : TI := ⟨.struct [(0, 9), (1, 12)], 2, 24, [.str [], .int .u64 0]⟩
theorem tiok14 : TIOk Tryz.prog 14 ti14 := TIOk.of ⟨_, Tryz.underlying14, rfl⟩
def ti15 : TI := ⟨.ptr 166, 1, 8, [.nilp]⟩
theorem tiok15 : TIOk Tryz.prog 15 ti15 := TIOk.of (Tryz.underlying15)
def ti16 : TI := ⟨.ptr 169, 1, 8, [.nilp]⟩
theorem tiok16 : TIOk Tryz.prog 16 ti16 := TIOk.of (Tryz.underlying16)
def ti17 : TI := ⟨.ptr 176, 1, 8, [.nilp]⟩
theorem tiok17 : TIOk Tryz.prog 17 ti17 := TIOk.of (Tryz.underlying17)
def ti18 : TI := ⟨.struct [(0, 17)], 1, 8, [.nilp]⟩
theorem tiok18 : TIOk Tryz.prog 18 ti18 := TIOk.of ⟨_, Tryz.underlying18, rfl⟩
def ti19 : TI := ⟨.struct [(0, 17)], 1, 8, [.nilp]⟩
theorem tiok19 : TIOk Tryz.prog 19 ti19 := TIOk.of ⟨_, Tryz.underlying19, rfl⟩
def ti20 : TI := ⟨.iface, 1, 16, [.nili]⟩
theorem tiok20 : TIOk Tryz.prog 20 ti20 := TIOk.of ⟨_, Tryz.underlying20⟩
def ti21 : TI := ⟨.int .i32, 1, 4, [.int .i32 0]⟩
theorem tiok21 : TIOk Tryz.prog 21 ti21 := TIOk.of (Tryz.underlying21)
def ti22 : TI := ⟨.slice 51, 1, 24, [.nil]⟩
theorem tiok22 : TIOk Tryz.prog 22 ti22 := TIOk.of (Tryz.underlying22)
def ti23 : TI := ⟨.struct [(0, 3), (1, 22)], 2, 32, [.int .i64 0, .nil]⟩
theorem tiok23 : TIOk Tryz.prog 23 ti23 := TIOk.of ⟨_, Tryz.underlying23, rfl⟩
def ti24 : TI := ⟨.struct [(0, 3), (1, 22)], 2, 32, [.int .i64 0, .nil]⟩
theorem tiok24 : TIOk Tryz.prog 24 ti24 := TIOk.of ⟨_, Tryz.underlying24, rfl⟩
def ti25 : TI := ⟨.int .i64, 1, 8, [.int .i64 0]⟩
theorem tiok25 : TIOk Tryz.prog 25 ti25 := TIOk.of (Tryz.underlying25)
def ti28 : TI := ⟨.slice 48, 1, 24, [.nil]⟩
theorem tiok28 : TIOk Tryz.prog 28 ti28 := TIOk.of (Tryz.underlying28)
def ti29 : TI := ⟨.struct [(0, 28)], 1, 24, [.nil]⟩
theorem tiok29 : TIOk Tryz.prog 29 ti29 := TIOk.of ⟨_, Tryz.underlying29, rfl⟩
def ti30 : TI := ⟨.struct [(0, 28)], 1, 24, [.nil]⟩
theorem tiok30 : TIOk Tryz.prog 30 ti30 := TIOk.of ⟨_, Tryz.underlying30, rfl⟩
def ti31 : TI := ⟨.slice 55, 1, 24, [.nil]⟩
theorem tiok31 : TIOk Tryz.prog 31 ti31 := TIOk.of (Tryz.underlying31)
def ti32 : TI := ⟨.struct [(0, 31)], 1, 24, [.nil]⟩
theorem tiok32 : TIOk Tryz.prog 32 ti32 := TIOk.of ⟨_, Tryz.underlying32, rfl⟩
def ti33 : TI := ⟨.struct [(0, 31)], 1, 24, [.nil]⟩
theorem tiok33 : TIOk Tryz.prog 33 ti33 := TIOk.of ⟨_, Tryz.underlying33, rfl⟩
def ti39 : TI := ⟨.map 3 3, 1, 8, [.nilm]⟩
theorem tiok39 : TIOk Tryz.prog 39 ti39 := TIOk.of (Tryz.underlying39)
def ti40 : TI := ⟨.slice 178, 1, 24, [.nil]⟩
theorem tiok40 : TIOk Tryz.prog 40 ti40 := TIOk.of (Tryz.underlying40)
def ti41 : TI := ⟨.struct [(0, 3), (1, 3), (2, 3)], 3, 24, [.int .i64 0, .int .i64 0, .int .i64 0]⟩
theorem tiok41 : TIOk Tryz.prog 41 ti41 := TIOk.of ⟨_, Tryz.underlying41, rfl⟩
def ti42 : TI := ⟨.struct [(0, 3), (1, 3), (2, 3)], 3, 24, [.int .i64 0, .int .i64 0, .int .i64 0]⟩
theorem tiok42 : TIOk Tryz.prog 42 ti42 := TIOk.of ⟨_, Tryz.underlying42, rfl⟩
def ti43 : TI := ⟨.slice 3, 1, 24, [.nil]⟩
theorem tiok43 : TIOk Tryz.prog 43 ti43 := TIOk.of (Tryz.underlying43)
def ti44 : TI := ⟨.struct [(0, 40), (1, 42), (4, 42), (7, 3), (8, 3), (9, 3), (10, 3), (11, 3), (12, 3), (13, 43), (14, 43), (15, 43)], 16, 192, [.nil, .int .i64 0, .int .i64 0, .int .i64 0, .int .i64 0, .int .i64 0, .int .i64 0, .int .i64 0, .int .i64 0, .int .i64 0, .int .i64 0, .int .i64 0, .int .i64 0, .nil, .nil, .nil]⟩
theorem tiok44 : TIOk Tryz.prog 44 ti44 := TIOk.of ⟨_, Tryz.underlying44, rfl⟩
def ti45 : TI := ⟨.struct [(0, 40), (1, 42), (4, 42), (7, 3), (8, 3), (9, 3), (10, 3), (11, 3), (12, 3), (13, 43), (14, 43), (15, 43)], 16, 192, [.nil, .int .i64 0, .int .i64 0, .int .i64 0, .int .i64 0, .int .i64 0, .int .i64 0, .int .i64 0, .int .i64 0, .int .i64 0, .int .i64 0, .int .i64 0, .int .i64 0, .nil, .nil, .nil]⟩
theorem tiok45 : TIOk Tryz.prog 45 ti45 := TIOk.of ⟨_, Tryz.underlying45, rfl⟩
def ti46 : TI := ⟨.slice 180, 1, 24, [.nil]⟩
theorem tiok46 : TIOk Tryz.prog 46 ti46 := TIOk.of (Tryz.underlying46)
def ti47 : TI := ⟨.struct [(0, 3), (1, 3), (2, 3), (3, 3), (4, 3), (5, 45), (21, 46)], 22, 256, [.int .i64 0, .int .i64 0, .int .i64 0, .int .i64 0, .int .i64 0, .nil, .int .i64 0, .int .i64 0, .int .i64 0, .int .i64 0, .int .i64 0, .int .i64 0, .int .i64 0, .int .i64 0, .int .i64 0, .int .i64 0, .int .i64 0, .int .i64 0, .nil, .nil, .nil, .nil]⟩
theorem tiok47 : TIOk Tryz.prog 47 ti47 := TIOk.of ⟨_, Tryz.underlying47, rfl⟩
def ti48 : TI := ⟨.struct [(0, 3), (1, 3), (2, 3), (3, 3), (4, 3), (5, 45), (21, 46)], 22, 256, [.int .i64 0, .int .i64 0, .int .i64 0, .int .i64 0, .int .i64 0, .nil, .int .i64 0, .int .i64 0, .int .i64 0, .int .i64 0, .int .i64 0, .int .i64 0, .int .i64 0, .int .i64 0, .int .i64 0, .int .i64 0, .int .i64 0, .int .i64 0, .nil, .nil, .nil, .nil]⟩
theorem tiok48 : TIOk Tryz.prog 48 ti48 := TIOk.of ⟨_, Tryz.underlying48, rfl⟩
def ti50 : TI := ⟨.struct [(0, 5), (1, 3), (2, 3)], 3, 24, [.int .u8 0, .int .i64 0, .int .i64 0]⟩
theorem tiok50 : TIOk Tryz.prog 50 ti50 := TIOk.of ⟨_, Tryz.underlying50, rfl⟩
def ti51 : TI := ⟨.struct [(0, 5), (1, 3), (2, 3)], 3, 24, [.int .u8 0, .int .i64 0, .int .i64 0]⟩
theorem tiok51 : TIOk Tryz.prog 51 ti51 := TIOk.of ⟨_, Tryz.underlying51, rfl⟩
def ti52 : TI := ⟨.slice 184, 1, 24, [.nil]⟩
theorem tiok52 : TIOk Tryz.prog 52 ti52 := TIOk.of (Tryz.underlying52)
def ti53 : TI := ⟨.slice 59, 1, 24, [.nil]⟩
theorem tiok53 : TIOk Tryz.prog 53 ti53 := TIOk.of (Tryz.underlying53)
def ti54 : TI := ⟨.struct [(0, 3), (1, 3), (2, 3), (3, 52), (4, 53)], 5, 72, [.int .i64 0, .int .i64 0, .int .i64 0, .nil, .nil]⟩
theorem tiok54 : TIOk Tryz.prog 54 ti54 := TIOk.of ⟨_, Tryz.underlying54, rfl⟩
def ti55 : TI := ⟨.struct [(0, 3), (1, 3), (2, 3), (3, 52), (4, 53)], 5, 72, [.int .i64 0, .int .i64 0, .int .i64 0, .nil, .nil]⟩
theorem tiok55 : TIOk Tryz.prog 55 ti55 := TIOk.of ⟨_, Tryz.underlying55, rfl⟩
def ti58 : TI := ⟨.struct [(0, 3), (1, 3), (2, 3), (3, 3)], 4, 32, [.int .i64 0, .int .i64 0, .int .i64 0, .int .i64 0]⟩
theorem tiok58 : TIOk Tryz.prog 58 ti58 := TIOk.of ⟨_, Tryz.underlying58, rfl⟩
def ti59 : TI := ⟨.struct [(0, 3), (1, 3), (2, 3), (3, 3)], 4, 32, [.int .i64 0, .int .i64 0, .int .i64 0, .int .i64 0]⟩
theorem tiok59 : TIOk Tryz.prog 59 ti59 := TIOk.of ⟨_, Tryz.underlying59, rfl⟩
def ti63 : TI := ⟨.ptr 66, 1, 8, [.nilp]⟩
theorem tiok63 : TIOk Tryz.prog 63 ti63 := TIOk.of (Tryz.underlying63)
def ti64 : TI := ⟨.slice 5, 1, 24, [.nil]⟩
theorem tiok64 : TIOk Tryz.prog 64 ti64 := TIOk.of (Tryz.underlying64)
def ti65 : TI := ⟨.struct [(0, 63), (1, 64)], 2, 32, [.nilp, .nil]⟩
theorem tiok65 : TIOk Tryz.prog 65 ti65 := TIOk.of ⟨_, Tryz.underlying65, rfl⟩
def ti66 : TI := ⟨.struct [(0, 63), (1, 64)], 2, 32, [.nilp, .nil]⟩
theorem tiok66 : TIOk Tryz.prog 66 ti66 := TIOk.of ⟨_, Tryz.underlying66, rfl⟩
def ti67 : TI := ⟨.iface, 1, 16, [.nili]⟩
theorem tiok67 : TIOk Tryz.prog 67 ti67 := TIOk.of ⟨_, Tryz.underlying67⟩
def ti68 : TI := ⟨.iface, 1, 16, [.nili]⟩
theorem tiok68 : TIOk Tryz.prog 68 ti68 := TIOk.of ⟨_, Tryz.underlying68⟩
def ti73 : TI := ⟨.slice 9, 1, 24, [.nil]⟩
theorem tiok73 : TIOk Tryz.prog 73 ti73 := TIOk.of (Tryz.underlying73)
def ti82 : TI := ⟨.int .u64, 1, 8, [.int .u64 0]⟩
theorem tiok82 : TIOk Tryz.prog 82 ti82 := TIOk.of (Tryz.underlying82)
def ti88 : TI := ⟨.ptr 5, 1, 8, [.nilp]⟩
theorem tiok88 : TIOk Tryz.prog 88 ti88 := TIOk.of (Tryz.underlying88)
def ti94 : TI := ⟨.int .i64, 1, 8, [.int .i64 0]⟩
theorem tiok94 : TIOk Tryz.prog 94 ti94 := TIOk.of (Tryz.underlying94)
def ti101 : TI := ⟨.int .u32, 1, 4, [.int .u32 0]⟩
theorem tiok101 : TIOk Tryz.prog 101 ti101 := TIOk.of (Tryz.underlying101)
def ti103 : TI := ⟨.int .u64, 1, 8, [.int .u64 0]⟩
theorem tiok103 : TIOk Tryz.prog 103 ti103 := TIOk.of (Tryz.underlying103)
def ti115 : TI := ⟨.int .u64, 1, 8, [.int .u64 0]⟩
theorem tiok115 : TIOk Tryz.prog 115 ti115 := TIOk.of (Tryz.underlying115)
def ti119 : TI := ⟨.ptr 3, 1, 8, [.nilp]⟩
theorem tiok119 : TIOk Tryz.prog 119 ti119 := TIOk.of (Tryz.underlying119)
def ti129 : TI := ⟨.int .i64, 1, 8, [.int .i64 0]⟩
theorem tiok129 : TIOk Tryz.prog 129 ti129 := TIOk.of (Tryz.underlying129)
def ti132 : TI := ⟨.ptr 148, 1, 8, [.nilp]⟩
theorem tiok132 : TIOk Tryz.prog 132 ti132 := TIOk.of (Tryz.underlying132)
def ti135 : TI := ⟨.ptr 115, 1, 8, [.nilp]⟩
theorem tiok135 : TIOk Tryz.prog 135 ti135 := TIOk.of (Tryz.underlying135)
def ti138 : TI := ⟨.array 24 5, 24, 24, [.int .u8 0, .int .u8 0, .int .u8 0, .int .u8 0, .int .u8 0, .int .u8 0, .int .u8 0, .int .u8 0, .int .u8 0, .int .u8 0, .int .u8 0, .int .u8 0, .int .u8 0, .int .u8 0, .int .u8 0, .int .u8 0, .int .u8 0, .int .u8 0, .int .u8 0, .int .u8 0, .int .u8 0, .int .u8 0, .int .u8 0, .int .u8 0]⟩
theorem tiok138 : TIOk Tryz.prog 138 ti138 := TIOk.of (Tryz.underlying138)
def ti147 : TI := ⟨.struct [(0, 9), (1, 9), (2, 68)], 3, 48, [.str [], .str [], .nili]⟩
theorem tiok147 : TIOk Tryz.prog 147 ti147 := TIOk.of ⟨_, Tryz.underlying147, rfl⟩
def ti148 : TI := ⟨.struct [(0, 9), (1, 9), (2, 68)], 3, 48, [.str [], .str [], .nili]⟩
theorem tiok148 : TIOk Tryz.prog 148 ti148 := TIOk.of ⟨_, Tryz.underlying148, rfl⟩
def ti151 : TI := ⟨.array 20 103, 20, 160, [.int .u64 0, .int .u64 0, .int .u64 0, .int .u64 0, .int .u64 0, .int .u64 0, .int .u64 0, .int .u64 0, .int .u64 0, .int .u64 0, .int .u64 0, .int .u64 0, .int .u64 0, .int .u64 0, .int .u64 0, .int .u64 0, .int .u64 0, .int .u64 0, .int .u64 0, .int .u64 0]⟩
theorem tiok151 : TIOk Tryz.prog 151 ti151 := TIOk.of (Tryz.underlying151)
def ti152 : TI := ⟨.array 65 5, 65, 65, List.replicate 65 (.int .u8 0)⟩
theorem tiok152 : TIOk Tryz.prog 152 ti152 := TIOk.of (Tryz.underlying152)
def ti153 : TI := ⟨.array 256 5, 256, 256, List.replicate 256 (.int .u8 0)⟩
theorem tiok153 : TIOk Tryz.prog 153 ti153 := TIOk.of (Tryz.underlying153)
def ti154 : TI := ⟨.struct [(0, 5), (1, 5)], 2, 2, [.int .u8 0, .int .u8 0]⟩
theorem tiok154 : TIOk Tryz.prog 154 ti154 := TIOk.of ⟨_, Tryz.underlying154, rfl⟩
def ti155 : TI := ⟨.struct [(0, 5), (1, 5)], 2, 2, [.int .u8 0, .int .u8 0]⟩
theorem tiok155 : TIOk Tryz.prog 155 ti155 := TIOk.of ⟨_, Tryz.underlying155, rfl⟩
def ti156 : TI := ⟨.array 16 155, 32, 32, [.int .u8 0, .int .u8 0, .int .u8 0, .int .u8 0, .int .u8 0, .int .u8 0, .int .u8 0, .int .u8 0, .int .u8 0, .int .u8 0, .int .u8 0, .int .u8 0, .int .u8 0, .int .u8 0, .int .u8 0, .int .u8 0, .int .u8 0, .int .u8 0, .int .u8 0, .int .u8 0, .int .u8 0, .int .u8 0, .int .u8 0, .int .u8 0, .int .u8 0, .int .u8 0, .int .u8 0, .int .u8 0, .int .u8 0, .int .u8 0, .int .u8 0, .int .u8 0]⟩
theorem tiok156 : TIOk Tryz.prog 156 ti156 := TIOk.of (Tryz.underlying156)
def ti160 : TI := ⟨.ptr 162, 1, 8, [.nilp]⟩
theorem tiok160 : TIOk Tryz.prog 160 ti160 := TIOk.of (Tryz.underlying160)
def ti161 : TI := ⟨.struct [(0, 9)], 1, 16, [.str []]⟩
theorem tiok161 : TIOk Tryz.prog 161 ti161 := TIOk.of ⟨_, Tryz.underlying161, rfl⟩
def ti162 : TI := ⟨.struct [(0, 9)], 1, 16, [.str []]⟩
theorem tiok162 : TIOk Tryz.prog 162 ti162 := TIOk.of ⟨_, Tryz.underlying162, rfl⟩
def ti163 : TI := ⟨.array 32 5, 32, 32, [.int .u8 0, .int .u8 0, .int .u8 0, .int .u8 0, .int .u8 0, .int .u8 0, .int .u8 0, .int .u8 0, .int .u8 0, .int .u8 0, .int .u8 0, .int .u8 0, .int .u8 0, .int .u8 0, .int .u8 0, .int .u8 0, .int .u8 0, .int .u8 0, .int .u8 0, .int .u8 0, .int .u8 0, .int .u8 0, .int .u8 0, .int .u8 0, .int .u8 0, .int .u8 0, .int .u8 0, .int .u8 0, .int .u8 0, .int .u8 0, .int .u8 0, .int .u8 0]⟩
theorem tiok163 : TIOk Tryz.prog 163 ti163 := TIOk.of (Tryz.underlying163)
def ti164 : TI := ⟨.array 64 5, 64, 64, [.int .u8 0, .int .u8 0, .int .u8 0, .int .u8 0, .int .u8 0, .int .u8 0, .int .u8 0, .int .u8 0, .int .u8 0, .int .u8 0, .int .u8 0, .int .u8 0, .int .u8 0, .int .u8 0, .int .u8 0, .int .u8 0, .int .u8 0, .int .u8 0, .int .u8 0, .int .u8 0, .int .u8 0, .int .u8 0, .int .u8 0, .int .u8 0, .int .u8 0, .int .u8 0, .int .u8 0, .int .u8 0, .int .u8 0, .int .u8 0, .int .u8 0, .int .u8 0, .int .u8 0, .int .u8 0, .int .u8 0, .int .u8 0, .int .u8 0, .int .u8 0, .int .u8 0, .int .u8 0, .int .u8 0, .int .u8 0, .int .u8 0, .int .u8 0, .int .u8 0, .int .u8 0, .int .u8 0, .int .u8 0, .int .u8 0, .int .u8 0, .int .u8 0, .int .u8 0, .int .u8 0, .int .u8 0, .int .u8 0, .int .u8 0, .int .u8 0, .int .u8 0, .int .u8 0, .int .u8 0, .int .u8 0, .int .u8 0, .int .u8 0, .int .u8 0]⟩
theorem tiok164 : TIOk Tryz.prog 164 ti164 := TIOk.of (Tryz.underlying164)
def ti165 : TI := ⟨.struct [(0, 17), (1, 17), (2, 17), (3, 9)], 4, 40, [.nilp, .nilp, .nilp, .str []]⟩
theorem tiok165 : TIOk Tryz.prog 165 ti165 := TIOk.of ⟨_, Tryz.underlying165, rfl⟩
def ti166 : TI := ⟨.struct [(0, 17), (1, 17), (2, 17), (3, 9)], 4, 40, [.nilp, .nilp, .nilp, .str []]⟩
theorem tiok166 : TIOk Tryz.prog 166 ti166 := TIOk.of ⟨_, Tryz.underlying166, rfl⟩
def ti167 : TI := ⟨.array 0 16, 0, 0, []⟩
theorem tiok167 : TIOk Tryz.prog 167 ti167 := TIOk.of (Tryz.underlying167)
def ti168 : TI := ⟨.struct [(0, 167)], 0, 0, []⟩
theorem tiok168 : TIOk Tryz.prog 168 ti168 := TIOk.of ⟨_, Tryz.underlying168, rfl⟩
def ti169 : TI := ⟨.struct [(0, 167)], 0, 0, []⟩
theorem tiok169 : TIOk Tryz.prog 169 ti169 := TIOk.of ⟨_, Tryz.underlying169, rfl⟩
def ti170 : TI := ⟨.int .u8, 1, 1, [.int .u8 0]⟩
theorem tiok170 : TIOk Tryz.prog 170 ti170 := TIOk.of (Tryz.underlying170)
def ti171 : TI := ⟨.int .u8, 1, 1, [.int .u8 0]⟩
theorem tiok171 : TIOk Tryz.prog 171 ti171 := TIOk.of (Tryz.underlying171)
def ti173 : TI := ⟨.int .i32, 1, 4, [.int .i32 0]⟩
theorem tiok173 : TIOk Tryz.prog 173 ti173 := TIOk.of (Tryz.underlying173)
def ti174 : TI := ⟨.int .i32, 1, 4, [.int .i32 0]⟩
theorem tiok174 : TIOk Tryz.prog 174 ti174 := TIOk.of (Tryz.underlying174)
def ti177 : TI := ⟨.struct [(0, 9), (1, 9), (2, 3)], 3, 40, [.str [], .str [], .int .i64 0]⟩
theorem tiok177 : TIOk Tryz.prog 177 ti177 := TIOk.of ⟨_, Tryz.underlying177, rfl⟩
def ti178 : TI := ⟨.struct [(0, 9), (1, 9), (2, 3)], 3, 40, [.str [], .str [], .int .i64 0]⟩
theorem tiok178 : TIOk Tryz.prog 178 ti178 := TIOk.of ⟨_, Tryz.underlying178, rfl⟩
def ti179 : TI := ⟨.struct [(0, 3), (1, 42)], 4, 32, [.int .i64 0, .int .i64 0, .int .i64 0, .int .i64 0]⟩
theorem tiok179 : TIOk Tryz.prog 179 ti179 := TIOk.of ⟨_, Tryz.underlying179, rfl⟩
def ti180 : TI := ⟨.struct [(0, 3), (1, 42)], 4, 32, [.int .i64 0, .int .i64 0, .int .i64 0, .int .i64 0]⟩
theorem tiok180 : TIOk Tryz.prog 180 ti180 := TIOk.of ⟨_, Tryz.underlying180, rfl⟩
def ti181 : TI := ⟨.struct [(0, 3), (1, 3), (2, 3), (3, 3), (4, 4)], 5, 40, [.int .i64 0, .int .i64 0, .int .i64 0, .int .i64 0, .bool false]⟩
theorem tiok181 : TIOk Tryz.prog 181 ti181 := TIOk.of ⟨_, Tryz.underlying181, rfl⟩
def ti182 : TI := ⟨.struct [(0, 3), (1, 3), (2, 3), (3, 3), (4, 4)], 5, 40, [.int .i64 0, .int .i64 0, .int .i64 0, .int .i64 0, .bool false]⟩
theorem tiok182 : TIOk Tryz.prog 182 ti182 := TIOk.of ⟨_, Tryz.underlying182, rfl⟩
def ti183 : TI := ⟨.struct [(0, 3), (1, 3), (2, 182)], 7, 56, [.int .i64 0, .int .i64 0, .int .i64 0, .int .i64 0, .int .i64 0, .int .i64 0, .bool false]⟩
theorem tiok183 : TIOk Tryz.prog 183 ti183 := TIOk.of ⟨_, Tryz.underlying183, rfl⟩
def ti184 : TI := ⟨.struct [(0, 3), (1, 3), (2, 182)], 7, 56, [.int .i64 0, .int .i64 0, .int .i64 0, .int .i64 0, .int .i64 0, .int .i64 0, .bool false]⟩
theorem tiok184 : TIOk Tryz.prog 184 ti184 := TIOk.of ⟨_, Tryz.underlying184, rfl⟩
def tabL : List (Nat × TI) := [(2, ti2), (3, ti3), (4, ti4), (5, ti5), (6, ti6), (7, ti7), (8, ti8), (9, ti9), (10, ti10), (11, ti11), (12, ti12), (13, ti13), (14, ti14), (15, ti15), (16, ti16), (17, ti17), (18, ti18), (19, ti19), (20, ti20), (21, ti21), (22, ti22), (23, ti23), (24, ti24), (25, ti25), (28, ti28), (29, ti29), (30, ti30), (31, ti31), (32, ti32), (33, ti33), (39, ti39), (40, ti40), (41, ti41), (42, ti42), (43, ti43), (44, ti44), (45, ti45), (46, ti46), (47, ti47), (48, ti48), (50, ti50), (51, ti51), (52, ti52), (53, ti53), (54, ti54), (55, ti55), (58, ti58), (59, ti59), (63, ti63), (64, ti64), (65, ti65), (66, ti66), (67, ti67), (68, ti68), (73, ti73), (82, ti82), (88, ti88), (94, ti94), (101, ti101), (103, ti103), (115, ti115), (119, ti119), (129, ti129), (132, ti132), (135, ti135), (138, ti138), (147, ti147), (148, ti148), (151, ti151), (152, ti152), (153, ti153), (154, ti154), (155, ti155), (156, ti156), (160, ti160), (161, ti161), (162, ti162), (163, ti163), (164, ti164), (165, ti165), (166, ti166), (167, ti167), (168, ti168), (169, ti169), (170, ti170), (171, ti171), (173, ti173), (174, ti174), (177, ti177), (178, ti178), (179, ti179), (180, ti180), (181, ti181), (182, ti182), (183, ti183), (184, ti184)]
def tab (t : Nat) : Option TI := lookT tabL t
theorem tabOk : TabOk Tryz.prog tab := fun _ _ h => allT (show AllT Tryz.prog tabL from ⟨tiok2, tiok3, tiok4, tiok5, tiok6, tiok7, tiok8, tiok9, tiok10, tiok11, tiok12, tiok13, tiok14, tiok15, tiok16, tiok17, tiok18, tiok19, tiok20, tiok21, tiok22, tiok23, tiok24, tiok25, tiok28, tiok29, tiok30, tiok31, tiok32, tiok33, tiok39, tiok40, tiok41, tiok42, tiok43, tiok44, tiok45, tiok46, tiok47, tiok48, tiok50, tiok51, tiok52, tiok53, tiok54, tiok55, tiok58, tiok59, tiok63, tiok64, tiok65, tiok66, tiok67, tiok68, tiok73, tiok82, tiok88, tiok94, tiok101, tiok103, tiok115, tiok119, tiok129, tiok132, tiok135, tiok138, tiok147, tiok148, tiok151, tiok152, tiok153, tiok154, tiok155, tiok156, tiok160, tiok161, tiok162, tiok163, tiok164, tiok165, tiok166, tiok167, tiok168, tiok169, tiok170, tiok171, tiok173, tiok174, tiok177, tiok178, tiok179, tiok180, tiok181, tiok182, tiok183, tiok184, trivial⟩) h
@[simp] theorem tab_2 : tab 2 = some ⟨.int .i64, 1, 8, [.int .i64 0]⟩ := rfl
@[simp] theorem tab_3 : tab 3 = some ⟨.int .i64, 1, 8, [.int .i64 0]⟩ := rfl
@[simp] theorem tab_4 : tab 4 = some ⟨.bool, 1, 1, [.bool false]⟩ := rfl
@[simp] theorem tab_5 : tab 5 = some ⟨.int .u8, 1, 1, [.int .u8 0]⟩ := rfl
@[simp] theorem tab_6 : tab 6 = some ⟨.int .u8, 1, 1, [.int .u8 0]⟩ := rfl
@[simp] theorem tab_7 : tab 7 = some ⟨.struct [(0, 2), (1, 3), (2, 4), (3, 6)], 4, 24, [.int .i64 0, .int .i64 0, .bool false, .int .u8 0]⟩ := rfl
@[simp] theorem tab_8 : tab 8 = some ⟨.struct [(0, 2), (1, 3), (2, 4), (3, 6)], 4, 24, [.int .i64 0, .int .i64 0, .bool false, .int .u8 0]⟩ := rfl
@[simp] theorem tab_9 : tab 9 = some ⟨.str, 1, 16, [.str []]⟩ := rfl
@[simp] theorem tab_10 : tab 10 = some ⟨.str, 1, 16, [.str []]⟩ := rfl
@[simp] theorem tab_11 : tab 11 = some ⟨.str, 1, 16, [.str []]⟩ := rfl
@[simp] theorem tab_12 : tab 12 = some ⟨.int .u64, 1, 8, [.int .u64 0]⟩ := rfl
@[simp] theorem tab_13 : tab 13 = some ⟨.struct [(0, 9), (1, 12)], 2, 24, [.str [], .int .u64 0]⟩ := rfl
@[simp] theorem tab_14 : tab 14 = some ⟨.struct [(0, 9), (1, 12)], 2, 24, [.str [], .int .u64 0]⟩ := rfl
@[simp] theorem tab_15 : tab 15 = some ⟨.ptr 166, 1, 8, [.nilp]⟩ := rfl
@[simp] theorem tab_16 : tab 16 = some ⟨.ptr 169, 1, 8, [.nilp]⟩ := rfl
@[simp] theorem tab_17 : tab 17 = some ⟨.ptr 176, 1, 8, [.nilp]⟩ := rfl
@[simp] theorem tab_18 : tab 18 = some ⟨.struct [(0, 17)], 1, 8, [.nilp]⟩ := rfl
@[simp] theorem tab_19 : tab 19 = some ⟨.struct [(0, 17)], 1, 8, [.nilp]⟩ := rfl
@[simp] theorem tab_20 : tab 20 = some ⟨.iface, 1, 16, [.nili]⟩ := rfl
@[simp] theorem tab_21 : tab 21 = some ⟨.int .i32, 1, 4, [.int .i32 0]⟩ := rfl
@[simp] theorem tab_22 : tab 22 = some ⟨.slice 51, 1, 24, [.nil]⟩ := rfl
@[simp] theorem tab_23 : tab 23 = some ⟨.struct [(0, 3), (1, 22)], 2, 32, [.int .i64 0, .nil]⟩ := rfl
@[simp] theorem tab_24 : tab 24 = some ⟨.struct [(0, 3), (1, 22)], 2, 32, [.int .i64 0, .nil]⟩ := rfl
@[simp] theorem tab_25 : tab 25 = some ⟨.int .i64, 1, 8, [.int .i64 0]⟩ := rfl
@[simp] theorem tab_28 : tab 28 = some ⟨.slice 48, 1, 24, [.nil]⟩ := rfl
@[simp] theorem tab_29 : tab 29 = some ⟨.struct [(0, 28)], 1, 24, [.nil]⟩ := rfl
@[simp] theorem tab_30 : tab 30 = some ⟨.struct [(0, 28)], 1, 24, [.nil]⟩ := rfl
@[simp] theorem tab_31 : tab 31 = some ⟨.slice 55, 1, 24, [.nil]⟩ := rfl
@[simp] theorem tab_32 : tab 32 = some ⟨.struct [(0, 31)], 1, 24, [.nil]⟩ := rfl
@[simp] theorem tab_33 : tab 33 = some ⟨.struct [(0, 31)], 1, 24, [.nil]⟩ := rfl
@[simp] theorem tab_39 : tab 39 = some ⟨.map 3 3, 1, 8, [.nilm]⟩ := rfl
@[simp] theorem tab_40 : tab 40 = some ⟨.slice 178, 1, 24, [.nil]⟩ := rfl
@[simp] theorem tab_41 : tab 41 = some ⟨.struct [(0, 3), (1, 3), (2, 3)], 3, 24, [.int .i64 0, .int .i64 0, .int .i64 0]⟩ := rfl
@[simp] theorem tab_42 : tab 42 = some ⟨.struct [(0, 3), (1, 3), (2, 3)], 3, 24, [.int .i64 0, .int .i64 0, .int .i64 0]⟩ := rfl
@[simp] theorem tab_43 : tab 43 = some ⟨.slice 3, 1, 24, [.nil]⟩ := rfl
@[simp] theorem tab_44 : tab 44 = some ⟨.struct [(0, 40), (1, 42), (4, 42), (7, 3), (8, 3), (9, 3), (10, 3), (11, 3), (12, 3), (13, 43), (14, 43), (15, 43)], 16, 192, [.nil, .int .i64 0, .int .i64 0, .int .i64 0, .int .i64 0, .int .i64 0, .int .i64 0, .int .i64 0, .int .i64 0, .int .i64 0, .int .i64 0, .int .i64 0, .int .i64 0, .nil, .nil, .nil]⟩ := rfl
@[simp] theorem tab_45 : tab 45 = some ⟨.struct [(0, 40), (1, 42), (4, 42), (7, 3), (8, 3), (9, 3), (10, 3), (11, 3), (12, 3), (13, 43), (14, 43), (15, 43)], 16, 192, [.nil, .int .i64 0, .int .i64 0, .int .i64 0, .int .i64 0, .int .i64 0, .int .i64 0, .int .i64 0, .int .i64 0, .int .i64 0, .int .i64 0, .int .i64 0, .int .i64 0, .nil, .nil, .nil]⟩ := rfl
@[simp] theorem tab_46 : tab 46 = some ⟨.slice 180, 1, 24, [.nil]⟩ := rfl
@[simp] theorem tab_47 : tab 47 = some ⟨.struct [(0, 3), (1, 3), (2, 3), (3, 3), (4, 3), (5, 45), (21, 46)], 22, 256, [.int .i64 0, .int .i64 0, .int .i64 0, .int .i64 0, .int .i64 0, .nil, .int .i64 0, .int .i64 0, .int .i64 0, .int .i64 0, .int .i64 0, .int .i64 0, .int .i64 0, .int .i64 0, .int .i64 0, .int .i64 0, .int .i64 0, .int .i64 0, .nil, .nil, .nil, .nil]⟩ := rfl
@[simp] theorem tab_48 : tab 48 = some ⟨.struct [(0, 3), (1, 3), (2, 3), (3, 3), (4, 3), (5, 45), (21, 46)], 22, 256, [.int .i64 0, .int .i64 0, .int .i64 0, .int .i64 0, .int .i64 0, .nil, .int .i64 0, .int .i64 0, .int .i64 0, .int .i64 0, .int .i64 0, .int .i64 0, .int .i64 0, .int .i64 0, .int .i64 0, .int .i64 0, .int .i64 0, .int .i64 0, .nil, .nil, .nil, .nil]⟩ := rfl
@[simp] theorem tab_50 : tab 50 = some ⟨.struct [(0, 5), (1, 3), (2, 3)], 3, 24, [.int .u8 0, .int .i64 0, .int .i64 0]⟩ := rfl
@[simp] theorem tab_51 : tab 51 = some ⟨.struct [(0, 5), (1, 3), (2, 3)], 3, 24, [.int .u8 0, .int .i64 0, .int .i64 0]⟩ := rfl
@[simp] theorem tab_52 : tab 52 = some ⟨.slice 184, 1, 24, [.nil]⟩ := rfl
@[simp] theorem tab_53 : tab 53 = some ⟨.slice 59, 1, 24, [.nil]⟩ := rfl
@[simp] theorem tab_54 : tab 54 = some ⟨.struct [(0, 3), (1, 3), (2, 3), (3, 52), (4, 53)], 5, 72, [.int .i64 0, .int .i64 0, .int .i64 0, .nil, .nil]⟩ := rfl
@[simp] theorem tab_55 : tab 55 = some ⟨.struct [(0, 3), (1, 3), (2, 3), (3, 52), (4, 53)], 5, 72, [.int .i64 0, .int .i64 0, .int .i64 0, .nil, .nil]⟩ := rfl
@[simp] theorem tab_58 : tab 58 = some ⟨.struct [(0, 3), (1, 3), (2, 3), (3, 3)], 4, 32, [.int .i64 0, .int .i64 0, .int .i64 0, .int .i64 0]⟩ := rfl
@[simp] theorem tab_59 : tab 59 = some ⟨.struct [(0, 3), (1, 3), (2, 3), (3, 3)], 4, 32, [.int .i64 0, .int .i64 0, .int .i64 0, .int .i64 0]⟩ := rfl
@[simp] theorem tab_63 : tab 63 = some ⟨.ptr 66, 1, 8, [.nilp]⟩ := rfl
@[simp] theorem tab_64 : tab 64 = some ⟨.slice 5, 1, 24, [.nil]⟩ := rfl
@[simp] theorem tab_65 : tab 65 = some ⟨.struct [(0, 63), (1, 64)], 2, 32, [.nilp, .nil]⟩ := rfl
@[simp] theorem tab_66 : tab 66 = some ⟨.struct [(0, 63), (1, 64)], 2, 32, [.nilp, .nil]⟩ := rfl
@[simp] theorem tab_67 : tab 67 = some ⟨.iface, 1, 16, [.nili]⟩ := rfl
@[simp] theorem tab_68 : tab 68 = some ⟨.iface, 1, 16, [.nili]⟩ := rfl
@[simp] theorem tab_73 : tab 73 = some ⟨.slice 9, 1, 24, [.nil]⟩ := rfl
@[simp] theorem tab_82 : tab 82 = some ⟨.int .u64, 1, 8, [.int .u64 0]⟩ := rfl
@[simp] theorem tab_88 : tab 88 = some ⟨.ptr 5, 1, 8, [.nilp]⟩ := rfl
@[simp] theorem tab_94 : tab 94 = some ⟨.int .i64, 1, 8, [.int .i64 0]⟩ := rfl
@[simp] theorem tab_101 : tab 101 = some ⟨.int .u32, 1, 4, [.int .u32 0]⟩ := rfl
@[simp] theorem tab_103 : tab 103 = some ⟨.int .u64, 1, 8, [.int .u64 0]⟩ := rfl
@[simp] theorem tab_115 : tab 115 = some ⟨.int .u64, 1, 8, [.int .u64 0]⟩ := rfl
@[simp] theorem tab_119 : tab 119 = some ⟨.ptr 3, 1, 8, [.nilp]⟩ := rfl
@[simp] theorem tab_129 : tab 129 = some ⟨.int .i64, 1, 8, [.int .i64 0]⟩ := rfl
@[simp] theorem tab_132 : tab 132 = some ⟨.ptr 148, 1, 8, [.nilp]⟩ := rfl
@[simp] theorem tab_135 : tab 135 = some ⟨.ptr 115, 1, 8, [.nilp]⟩ := rfl
@[simp] theorem tab_138 : tab 138 = some ⟨.array 24 5, 24, 24, [.int .u8 0, .int .u8 0, .int .u8 0, .int .u8 0, .int .u8 0, .int .u8 0, .int .u8 0, .int .u8 0, .int .u8 0, .int .u8 0, .int .u8 0, .int .u8 0, .int .u8 0, .int .u8 0, .int .u8 0, .int .u8 0, .int .u8 0, .int .u8 0, .int .u8 0, .int .u8 0, .int .u8 0, .int .u8 0, .int .u8 0, .int .u8 0]⟩ := rfl
@[simp] theorem tab_147 : tab 147 = some ⟨.struct [(0, 9), (1, 9), (2, 68)], 3, 48, [.str [], .str [], .nili]⟩ := rfl
@[simp] theorem tab_148 : tab 148 = some ⟨.struct [(0, 9), (1, 9), (2, 68)], 3, 48, [.str [], .str [], .nili]⟩ := rfl
@[simp] theorem tab_151 : tab 151 = some ⟨.array 20 103, 20, 160, [.int .u64 0, .int .u64 0, .int .u64 0, .int .u64 0, .int .u64 0, .int .u64 0, .int .u64 0, .int .u64 0, .int .u64 0, .int .u64 0, .int .u64 0, .int .u64 0, .int .u64 0, .int .u64 0, .int .u64 0, .int .u64 0, .int .u64 0, .int .u64 0, .int .u64 0, .int .u64 0]⟩ := rfl
@[simp] theorem tab_152 : tab 152 = some ⟨.array 65 5, 65, 65, List.replicate 65 (.int .u8 0)⟩ := rfl
@[simp] theorem tab_153 : tab 153 = some ⟨.array 256 5, 256, 256, List.replicate 256 (.int .u8 0)⟩ := rfl
@[simp] theorem tab_154 : tab 154 = some ⟨.struct [(0, 5), (1, 5)], 2, 2, [.int .u8 0, .int .u8 0]⟩ := rfl
@[simp] theorem tab_155 : tab 155 = some ⟨.struct [(0, 5), (1, 5)], 2, 2, [.int .u8 0, .int .u8 0]⟩ := rfl
@[simp] theorem tab_156 : tab 156 = some ⟨.array 16 155, 32, 32, [.int .u8 0, .int .u8 0, .int .u8 0, .int .u8 0, .int .u8 0, .int .u8 0, .int .u8 0, .int .u8 0, .int .u8 0, .int .u8 0, .int .u8 0, .int .u8 0, .int .u8 0, .int .u8 0, .int .u8 0, .int .u8 0, .int .u8 0, .int .u8 0, .int .u8 0, .int .u8 0, .int .u8 0, .int .u8 0, .int .u8 0, .int .u8 0, .int .u8 0, .int .u8 0, .int .u8 0, .int .u8 0, .int .u8 0, .int .u8 0, .int .u8 0, .int .u8 0]⟩ := rfl
@[simp] theorem tab_160 : tab 160 = some ⟨.ptr 162, 1, 8, [.nilp]⟩ := rfl
@[simp] theorem tab_161 : tab 161 = some ⟨.struct [(0, 9)], 1, 16, [.str []]⟩ := rfl
@[simp] theorem tab_162 : tab 162 = some ⟨.struct [(0, 9)], 1, 16, [.str []]⟩ := rfl
@[simp] theorem tab_163 : tab 163 = some ⟨.array 32 5, 32, 32, [.int .u8 0, .int .u8 0, .int .u8 0, .int .u8 0, .int .u8 0, .int .u8 0, .int .u8 0, .int .u8 0, .int .u8 0, .int .u8 0, .int .u8 0, .int .u8 0, .int .u8 0, .int .u8 0, .int .u8 0, .int .u8 0, .int .u8 0, .int .u8 0, .int .u8 0, .int .u8 0, .int .u8 0, .int .u8 0, .int .u8 0, .int .u8 0, .int .u8 0, .int .u8 0, .int .u8 0, .int .u8 0, .int .u8 0, .int .u8 0, .int .u8 0, .int .u8 0]⟩ := rfl
@[simp] theorem tab_164 : tab 164 = some ⟨.array 64 5, 64, 64, [.int .u8 0, .int .u8 0, .int .u8 0, .int .u8 0, .int .u8 0, .int .u8 0, .int .u8 0, .int .u8 0, .int .u8 0, .int .u8 0, .int .u8 0, .int .u8 0, .int .u8 0, .int .u8 0, .int .u8 0, .int .u8 0, .int .u8 0, .int .u8 0, .int .u8 0, .int .u8 0, .int .u8 0, .int .u8 0, .int .u8 0, .int .u8 0, .int .u8 0, .int .u8 0, .int .u8 0, .int .u8 0, .int .u8 0, .int .u8 0, .int .u8 0, .int .u8 0, .int .u8 0, .int .u8 0, .int .u8 0, .int .u8 0, .int .u8 0, .int .u8 0, .int .u8 0, .int .u8 0, .int .u8 0, .int .u8 0, .int .u8 0, .int .u8 0, .int .u8 0, .int .u8 0, .int .u8 0, .int .u8 0, .int .u8 0, .int .u8 0, .int .u8 0, .int .u8 0, .int .u8 0, .int .u8 0, .int .u8 0, .int .u8 0, .int .u8 0, .int .u8 0, .int .u8 0, .int .u8 0, .int .u8 0, .int .u8 0, .int .u8 0, .int .u8 0]⟩ := rfl
@[simp] theorem tab_165 : tab 165 = some ⟨.struct [(0, 17), (1, 17), (2, 17), (3, 9)], 4, 40, [.nilp, .nilp, .nilp, .str []]⟩ := rfl
@[simp] theorem tab_166 : tab 166 = some ⟨.struct [(0, 17), (1, 17), (2, 17), (3, 9)], 4, 40, [.nilp, .nilp, .nilp, .str []]⟩ := rfl
@[simp] theorem tab_167 : tab 167 = some ⟨.array 0 16, 0, 0, []⟩ := rfl
@[simp] theorem tab_168 : tab 168 = some ⟨.struct [(0, 167)], 0, 0, []⟩ := rfl
@[simp] theorem tab_169 : tab 169 = some ⟨.struct [(0, 167)], 0, 0, []⟩ := rfl
@[simp] theorem tab_170 : tab 170 = some ⟨.int .u8, 1, 1, [.int .u8 0]⟩ := rfl
@[simp] theorem tab_171 : tab 171 = some ⟨.int .u8, 1, 1, [.int .u8 0]⟩ := rfl
@[simp] theorem tab_173 : tab 173 = some ⟨.int .i32, 1, 4, [.int .i32 0]⟩ := rfl
@[simp] theorem tab_174 : tab 174 = some ⟨.int .i32, 1, 4, [.int .i32 0]⟩ := rfl
@[simp] theorem tab_177 : tab 177 = some ⟨.struct [(0, 9), (1, 9), (2, 3)], 3, 40, [.str [], .str [], .int .i64 0]⟩ := rfl
@[simp] theorem tab_178 : tab 178 = some ⟨.struct [(0, 9), (1, 9), (2, 3)], 3, 40, [.str [], .str [], .int .i64 0]⟩ := rfl
@[simp] theorem tab_179 : tab 179 = some ⟨.struct [(0, 3), (1, 42)], 4, 32, [.int .i64 0, .int .i64 0, .int .i64 0, .int .i64 0]⟩ := rfl
@[simp] theorem tab_180 : tab 180 = some ⟨.struct [(0, 3), (1, 42)], 4, 32, [.int .i64 0, .int .i64 0, .int .i64 0, .int .i64 0]⟩ := rfl
@[simp] theorem tab_181 : tab 181 = some ⟨.struct [(0, 3), (1, 3), (2, 3), (3, 3), (4, 4)], 5, 40, [.int .i64 0, .int .i64 0, .int .i64 0, .int .i64 0, .bool false]⟩ := rfl
@[simp] theorem tab_182 : tab 182 = some ⟨.struct [(0, 3), (1, 3), (2, 3), (3, 3), (4, 4)], 5, 40, [.int .i64 0, .int .i64 0, .int .i64 0, .int .i64 0, .bool false]⟩ := rfl
@[simp] theorem tab_183 : tab 183 = some ⟨.struct [(0, 3), (1, 3), (2, 182)], 7, 56, [.int .i64 0, .int .i64 0, .int .i64 0, .int .i64 0, .int .i64 0, .int .i64 0, .bool false]⟩ := rfl
@[simp] theorem tab_184 : tab 184 = some ⟨.struct [(0, 3), (1, 3), (2, 182)], 7, 56, [.int .i64 0, .int .i64 0, .int .i64 0, .int .i64 0, .int .i64 0, .int .i64 0, .bool false]⟩ := rfl
theorem call_3 : Callable Tryz.prog 3 := ⟨⟨_, Tryz.func3, by kernel_rfl, by kernel_rfl⟩⟩
theorem call_4 : Callable Tryz.prog 4 := ⟨⟨_, Tryz.func4, by kernel_rfl, by kernel_rfl⟩⟩
theorem call_5 : Callable Tryz.prog 5 := ⟨⟨_, Tryz.func5, by kernel_rfl, by kernel_rfl⟩⟩
theorem call_6 : Callable Tryz.prog 6 := ⟨⟨_, Tryz.func6, by kernel_rfl, by kernel_rfl⟩⟩
theorem call_7 : Callable Tryz.prog 7 := ⟨⟨_, Tryz.func7, by kernel_rfl, by kernel_rfl⟩⟩
theorem call_8 : Callable Tryz.prog 8 := ⟨⟨_, Tryz.func8, by kernel_rfl, by kernel_rfl⟩⟩
theorem call_9 : Callable Tryz.prog 9 := ⟨⟨_, Tryz.func9, by kernel_rfl, by kernel_rfl⟩⟩
theorem call_10 : Callable Tryz.prog 10 := ⟨⟨_, Tryz.func10, by kernel_rfl, by kernel_rfl⟩⟩
theorem call_11 : Callable Tryz.prog 11 := ⟨⟨_, Tryz.func11, by kernel_rfl, by kernel_rfl⟩⟩
theorem call_12 : Callable Tryz.prog 12 := ⟨⟨_, Tryz.func12, by kernel_rfl, by kernel_rfl⟩⟩
theorem call_13 : Callable Tryz.prog 13 := ⟨⟨_, Tryz.func13, by kernel_rfl, by kernel_rfl⟩⟩
theorem call_14 : Callable Tryz.prog 14 := ⟨⟨_, Tryz.func14, by kernel_rfl, by kernel_rfl⟩⟩
theorem call_15 : Callable Tryz.prog 15 := ⟨⟨_, Tryz.func15, by kernel_rfl, by kernel_rfl⟩⟩
theorem call_16 : Callable Tryz.prog 16 := ⟨⟨_, Tryz.func16, by kernel_rfl, by kernel_rfl⟩⟩
theorem call_17 : Callable Tryz.prog 17 := ⟨⟨_, Tryz.func17, by kernel_rfl, by kernel_rfl⟩⟩
theorem call_18 : Callable Tryz.prog 18 := ⟨⟨_, Tryz.func18, by kernel_rfl, by kernel_rfl⟩⟩
theorem call_19 : Callable Tryz.prog 19 := ⟨⟨_, Tryz.func19, by kernel_rfl, by kernel_rfl⟩⟩
theorem call_20 : Callable Tryz.prog 20 := ⟨⟨_, Tryz.func20, by kernel_rfl, by kernel_rfl⟩⟩
theorem call_21 : Callable Tryz.prog 21 := ⟨⟨_, Tryz.func21, by kernel_rfl, by kernel_rfl⟩⟩
theorem call_22 : Callable Tryz.prog 22 := ⟨⟨_, Tryz.func22, by kernel_rfl, by kernel_rfl⟩⟩
theorem call_23 : Callable Tryz.prog 23 := ⟨⟨_, Tryz.func23, by kernel_rfl, by kernel_rfl⟩⟩
theorem call_24 : Callable Tryz.prog 24 := ⟨⟨_, Tryz.func24, by kernel_rfl, by kernel_rfl⟩⟩
theorem call_25 : Callable Tryz.prog 25 := ⟨⟨_, Tryz.func25, by kernel_rfl, by kernel_rfl⟩⟩
theorem call_26 : Callable Tryz.prog 26 := ⟨⟨_, Tryz.func26, by kernel_rfl, by kernel_rfl⟩⟩
theorem call_27 : Callable Tryz.prog 27 := ⟨⟨_, Tryz.func27, by kernel_rfl, by kernel_rfl⟩⟩
theorem call_28 : Callable Tryz.prog 28 := ⟨⟨_, Tryz.func28, by kernel_rfl, by kernel_rfl⟩⟩
theorem call_29 : Callable Tryz.prog 29 := ⟨⟨_, Tryz.func29, by kernel_rfl, by kernel_rfl⟩⟩
theorem call_30 : Callable Tryz.prog 30 := ⟨⟨_, Tryz.func30, by kernel_rfl, by kernel_rfl⟩⟩
theorem call_31 : Callable Tryz.prog 31 := ⟨⟨_, Tryz.func31, by kernel_rfl, by kernel_rfl⟩⟩
theorem call_32 : Callable Tryz.prog 32 := ⟨⟨_, Tryz.func32, by kernel_rfl, by kernel_rfl⟩⟩
theorem call_33 : Callable Tryz.prog 33 := ⟨⟨_, Tryz.func33, by kernel_rfl, by kernel_rfl⟩⟩
theorem call_34 : Callable Tryz.prog 34 := ⟨⟨_, Tryz.func34, by kernel_rfl, by kernel_rfl⟩⟩
theorem call_35 : Callable Tryz.prog 35 := ⟨⟨_, Tryz.func35, by kernel_rfl, by kernel_rfl⟩⟩
theorem call_36 : Callable Tryz.prog 36 := ⟨⟨_, Tryz.func36, by kernel_rfl, by kernel_rfl⟩⟩
theorem call_37 : Callable Tryz.prog 37 := ⟨⟨_, Tryz.func37, by kernel_rfl, by kernel_rfl⟩⟩
theorem call_38 : Callable Tryz.prog 38 := ⟨⟨_, Tryz.func38, by kernel_rfl, by kernel_rfl⟩⟩
theorem call_39 : Callable Tryz.prog 39 := ⟨⟨_, Tryz.func39, by kernel_rfl, by kernel_rfl⟩⟩
theorem call_40 : Callable Tryz.prog 40 := ⟨⟨_, Tryz.func40, by kernel_rfl, by kernel_rfl⟩⟩
theorem call_41 : Callable Tryz.prog 41 := ⟨⟨_, Tryz.func41, by kernel_rfl, by kernel_rfl⟩⟩
theorem call_42 : Callable Tryz.prog 42 := ⟨⟨_, Tryz.func42, by kernel_rfl, by kernel_rfl⟩⟩
theorem call_43 : Callable Tryz.prog 43 := ⟨⟨_, Tryz.func43, by kernel_rfl, by kernel_rfl⟩⟩
theorem call_44 : Callable Tryz.prog 44 := ⟨⟨_, Tryz.func44, by kernel_rfl, by kernel_rfl⟩⟩
theorem call_45 : Callable Tryz.prog 45 := ⟨⟨_, Tryz.func45, by kernel_rfl, by kernel_rfl⟩⟩
theorem call_47 : Callable Tryz.prog 47 := ⟨⟨_, Tryz.func47, by kernel_rfl, by kernel_rfl⟩⟩
theorem call_48 : Callable Tryz.prog 48 := ⟨⟨_, Tryz.func48, by kernel_rfl, by kernel_rfl⟩⟩
theorem call_49 : Callable Tryz.prog 49 := ⟨⟨_, Tryz.func49, by kernel_rfl, by kernel_rfl⟩⟩
theorem call_50 : Callable Tryz.prog 50 := ⟨⟨_, Tryz.func50, by kernel_rfl, by kernel_rfl⟩⟩
theorem call_51 : Callable Tryz.prog 51 := ⟨⟨_, Tryz.func51, by kernel_rfl, by kernel_rfl⟩⟩
theorem call_52 : Callable Tryz.prog 52 := ⟨⟨_, Tryz.func52, by kernel_rfl, by kernel_rfl⟩⟩
theorem call_53 : Callable Tryz.prog 53 := ⟨⟨_, Tryz.func53, by kernel_rfl, by kernel_rfl⟩⟩
theorem call_54 : Callable Tryz.prog 54 := ⟨⟨_, Tryz.func54, by kernel_rfl, by kernel_rfl⟩⟩
theorem call_55 : Callable Tryz.prog 55 := ⟨⟨_, Tryz.func55, by kernel_rfl, by kernel_rfl⟩⟩
theorem call_56 : Callable Tryz.prog 56 := ⟨⟨_, Tryz.func56, by kernel_rfl, by kernel_rfl⟩⟩
theorem call_57 : Callable Tryz.prog 57 := ⟨⟨_, Tryz.func57, by kernel_rfl, by kernel_rfl⟩⟩
theorem call_58 : Callable Tryz.prog 58 := ⟨⟨_, Tryz.func58, by kernel_rfl, by kernel_rfl⟩⟩
theorem call_59 : Callable Tryz.prog 59 := ⟨⟨_, Tryz.func59, by kernel_rfl, by kernel_rfl⟩⟩
theorem call_60 : Callable Tryz.prog 60 := ⟨⟨_, Tryz.func60, by kernel_rfl, by kernel_rfl⟩⟩
theorem call_61 : Callable Tryz.prog 61 := ⟨⟨_, Tryz.func61, by kernel_rfl, by kernel_rfl⟩⟩
theorem call_62 : Callable Tryz.prog 62 := ⟨⟨_, Tryz.func62, by kernel_rfl, by kernel_rfl⟩⟩
theorem call_63 : Callable Tryz.prog 63 := ⟨⟨_, Tryz.func63, by kernel_rfl, by kernel_rfl⟩⟩
theorem call_64 : Callable Tryz.prog 64 := ⟨⟨_, Tryz.func64, by kernel_rfl, by kernel_rfl⟩⟩
theorem call_65 : Callable Tryz.prog 65 := ⟨⟨_, Tryz.func65, by kernel_rfl, by kernel_rfl⟩⟩
theorem call_66 : Callable Tryz.prog 66 := ⟨⟨_, Tryz.func66, by kernel_rfl, by kernel_rfl⟩⟩
theorem call_67 : Callable Tryz.prog 67 := ⟨⟨_, Tryz.func67, by kernel_rfl, by kernel_rfl⟩⟩
theorem call_68 : Callable Tryz.prog 68 := ⟨⟨_, Tryz.func68, by kernel_rfl, by kernel_rfl⟩⟩
theorem call_70 : Callable Tryz.prog 70 := ⟨⟨_, Tryz.func70, by kernel_rfl, by kernel_rfl⟩⟩
theorem call_71 : Callable Tryz.prog 71 := ⟨⟨_, Tryz.func71, by kernel_rfl, by kernel_rfl⟩⟩
theorem call_72 : Callable Tryz.prog 72 := ⟨⟨_, Tryz.func72, by kernel_rfl, by kernel_rfl⟩⟩
theorem call_73 : Callable Tryz.prog 73 := ⟨⟨_, Tryz.func73, by kernel_rfl, by kernel_rfl⟩⟩
theorem call_74 : Callable Tryz.prog 74 := ⟨⟨_, Tryz.func74, by kernel_rfl, by kernel_rfl⟩⟩
theorem call_75 : Callable Tryz.prog 75 := ⟨⟨_, Tryz.func75, by kernel_rfl, by kernel_rfl⟩⟩
theorem call_76 : Callable Tryz.prog 76 := ⟨⟨_, Tryz.func76, by kernel_rfl, by kernel_rfl⟩⟩
theorem call_77 : Callable Tryz.prog 77 := ⟨⟨_, Tryz.func77, by kernel_rfl, by kernel_rfl⟩⟩
theorem call_78 : Callable Tryz.prog 78 := ⟨⟨_, Tryz.func78, by kernel_rfl, by kernel_rfl⟩⟩
theorem call_79 : Callable Tryz.prog 79 := ⟨⟨_, Tryz.func79, by kernel_rfl, by kernel_rfl⟩⟩
theorem call_80 : Callable Tryz.prog 80 := ⟨⟨_, Tryz.func80, by kernel_rfl, by kernel_rfl⟩⟩
theorem call_82 : Callable Tryz.prog 82 := ⟨⟨_, Tryz.func82, by kernel_rfl, by kernel_rfl⟩⟩
theorem call_83 : Callable Tryz.prog 83 := ⟨⟨_, Tryz.func83, by kernel_rfl, by kernel_rfl⟩⟩
theorem call_85 : Callable Tryz.prog 85 := ⟨⟨_, Tryz.func85, by kernel_rfl, by kernel_rfl⟩⟩
theorem call_86 : Callable Tryz.prog 86 := ⟨⟨_, Tryz.func86, by kernel_rfl, by kernel_rfl⟩⟩
theorem call_87 : Callable Tryz.prog 87 := ⟨⟨_, Tryz.func87, by kernel_rfl, by kernel_rfl⟩⟩
theorem call_88 : Callable Tryz.prog 88 := ⟨⟨_, Tryz.func88, by kernel_rfl, by kernel_rfl⟩⟩
theorem call_89 : Callable Tryz.prog 89 := ⟨⟨_, Tryz.func89, by kernel_rfl, by kernel_rfl⟩⟩
theorem call_90 : Callable Tryz.prog 90 := ⟨⟨_, Tryz.func90, by kernel_rfl, by kernel_rfl⟩⟩
theorem call_91 : Callable Tryz.prog 91 := ⟨⟨_, Tryz.func91, by kernel_rfl, by kernel_rfl⟩⟩
theorem call_92 : Callable Tryz.prog 92 := ⟨⟨_, Tryz.func92, by kernel_rfl, by kernel_rfl⟩⟩
theorem call_93 : Callable Tryz.prog 93 := ⟨⟨_, Tryz.func93, by kernel_rfl, by kernel_rfl⟩⟩
theorem call_95 : Callable Tryz.prog 95 := ⟨⟨_, Tryz.func95, by kernel_rfl, by kernel_rfl⟩⟩
theorem call_96 : Callable Tryz.prog 96 := ⟨⟨_, Tryz.func96, by kernel_rfl, by kernel_rfl⟩⟩
theorem call_97 : Callable Tryz.prog 97 := ⟨⟨_, Tryz.func97, by kernel_rfl, by kernel_rfl⟩⟩
theorem call_98 : Callable Tryz.prog 98 := ⟨⟨_, Tryz.func98, by kernel_rfl, by kernel_rfl⟩⟩
theorem call_99 : Callable Tryz.prog 99 := ⟨⟨_, Tryz.func99, by kernel_rfl, by kernel_rfl⟩⟩
@[simp] theorem bneI (a b : Int) : (a != b) = !decide (a = b) := by by_cases h : a = b <;> simp [h]
@[simp] theorem beqI (a b : Int) : (a == b) = decide (a = b) := by by_cases h : a = b <;> simp [h]
attribute [simp] frzAt List.take_of_length_le vids vidss cellD cellsD leR leA FV.le D.leL mskE mskS opTmps tmpsOf Op.operands Call.operands ptrsOf rdIds shIds isSh newOk gotE putE mvN mkEv wrEv updS getO Ev.app evDr1 evDr isStore ptrIds wrIds msk fids fidss oids evIds callS τ1 placesT evOne evPs ArgsOk ArgOk σ0 renE pickS srcV srcT srcC evAp evCo seqQ blockQ retQ ren rens renO renOs σ1 setAll evOps wantS evOp evA evX evXs evOpt ofVal ofLeaf ofLeaves setS get evBin evInt evStr evCpx evFlt evLd evStN evIA evIx evFA evField evUn evCv evSl bnd ldD evBu lenV evLk evMu mapV mapO keyAt keyEq keyOk lkD mpSet mxI mnI TI.ag D.cs elemAt mkV allD partV cellsV plainV fvCells spl evBd fillV partsD szD okEl TI.zeroD evB envFrom retAll retOne pack viewF viewFs D.flat D.flats flatV flatVs flatR keepE below belows belowE belowO belowS
end Go.Proofs.YtjlamhilnkadcaaGreatDoor.Pay
