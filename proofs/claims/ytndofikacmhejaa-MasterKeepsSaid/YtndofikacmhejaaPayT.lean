/- The table of types. Written by tab.py. -/
import Derived.Test.YtndofikacmhejaaPayY
import Derived.Test.YtndofikacmhejaaProg
import Derived.KernelRfl
namespace Go.Proofs.Ytndofikacmhejaa.Pay
open Go Go.Proofs
def lookT : List (Nat × TI) → Nat → Option TI
  | [], _ => none
  | (s, v) :: r, t => if s = t then some v else lookT r t
def AllT (P : Program) : List (Nat × TI) → Prop
  | [] => True
  | p :: r => TIOk P p.1 p.2 ∧ AllT P r
theorem allT {P : Program} : ∀ {l : List (Nat × TI)} {t : Nat} {i : TI}, AllT P l → lookT l t = some i → TIOk P t i
  | [], _, _, _, h => by simp [lookT] at h
  | (s, v) :: r, t, i, ha, h => by
    unfold lookT at h
    by_cases hs : s = t
    · rw [if_pos hs] at h; cases h; subst hs; exact ha.1
    · rw [if_neg hs] at h; exact allT ha.2 h
theorem TIOk.of {P : Program} {t : Nat} {i : TI} (hk : TKOk P t i.kind) (h : (P.info? t).isSome = true) (h1 : ((P.info? t).get h).size = i.size) (h2 : ((P.info? t).get h).bytes = i.bytes)
    (h3 : ((P.info? t).get h).zero.isSome = true) (h4 : ofLeaves (((P.info? t).get h).zero.get h3).cells.toList = some i.zero) (h5 : (((P.info? t).get h).zero.get h3).cells.size = i.size) : TIOk P t i :=
  ⟨hk, _, _, (Option.some_get h).symm, h1, h2, (Option.some_get h3).symm, h4, h5⟩
def ti2 : TI := ⟨.int .i64, 1, 8, [.int .i64 0]⟩
theorem tiok2 : TIOk Try.prog 2 ti2 := TIOk.of (Try.underlying2) (by kernel_rfl) (by kernel_rfl) (by kernel_rfl) (by kernel_rfl) (by kernel_rfl) (by kernel_rfl)
def ti3 : TI := ⟨.int .i64, 1, 8, [.int .i64 0]⟩
theorem tiok3 : TIOk Try.prog 3 ti3 := TIOk.of (Try.underlying3) (by kernel_rfl) (by kernel_rfl) (by kernel_rfl) (by kernel_rfl) (by kernel_rfl) (by kernel_rfl)
def ti4 : TI := ⟨.bool, 1, 1, [.bool false]⟩
theorem tiok4 : TIOk Try.prog 4 ti4 := TIOk.of (Try.underlying4) (by kernel_rfl) (by kernel_rfl) (by kernel_rfl) (by kernel_rfl) (by kernel_rfl) (by kernel_rfl)
def ti5 : TI := ⟨.int .u8, 1, 1, [.int .u8 0]⟩
theorem tiok5 : TIOk Try.prog 5 ti5 := TIOk.of (Try.underlying5) (by kernel_rfl) (by kernel_rfl) (by kernel_rfl) (by kernel_rfl) (by kernel_rfl) (by kernel_rfl)
def ti6 : TI := ⟨.int .u8, 1, 1, [.int .u8 0]⟩
theorem tiok6 : TIOk Try.prog 6 ti6 := TIOk.of (Try.underlying6) (by kernel_rfl) (by kernel_rfl) (by kernel_rfl) (by kernel_rfl) (by kernel_rfl) (by kernel_rfl)
def ti7 : TI := ⟨.struct [(0, 2), (1, 3), (2, 4), (3, 6)], 4, 24, [.int .i64 0, .int .i64 0, .bool false, .int .u8 0]⟩
theorem tiok7 : TIOk Try.prog 7 ti7 := TIOk.of ⟨_, Try.underlying7, rfl⟩ (by kernel_rfl) (by kernel_rfl) (by kernel_rfl) (by kernel_rfl) (by kernel_rfl) (by kernel_rfl)
def ti8 : TI := ⟨.struct [(0, 2), (1, 3), (2, 4), (3, 6)], 4, 24, [.int .i64 0, .int .i64 0, .bool false, .int .u8 0]⟩
theorem tiok8 : TIOk Try.prog 8 ti8 := TIOk.of ⟨_, Try.underlying8, rfl⟩ (by kernel_rfl) (by kernel_rfl) (by kernel_rfl) (by kernel_rfl) (by kernel_rfl) (by kernel_rfl)
def ti9 : TI := ⟨.str, 1, 16, [.str []]⟩
theorem tiok9 : TIOk Try.prog 9 ti9 := TIOk.of (Try.underlying9) (by kernel_rfl) (by kernel_rfl) (by kernel_rfl) (by kernel_rfl) (by kernel_rfl) (by kernel_rfl)
def ti10 : TI := ⟨.str, 1, 16, [.str []]⟩
theorem tiok10 : TIOk Try.prog 10 ti10 := TIOk.of (Try.underlying10) (by kernel_rfl) (by kernel_rfl) (by kernel_rfl) (by kernel_rfl) (by kernel_rfl) (by kernel_rfl)
def ti11 : TI := ⟨.str, 1, 16, [.str []]⟩
theorem tiok11 : TIOk Try.prog 11 ti11 := TIOk.of (Try.underlying11) (by kernel_rfl) (by kernel_rfl) (by kernel_rfl) (by kernel_rfl) (by kernel_rfl) (by kernel_rfl)
def ti12 : TI := ⟨.int .u64, 1, 8, [.int .u64 0]⟩
theorem tiok12 : TIOk Try.prog 12 ti12 := TIOk.of (Try.underlying12) (by kernel_rfl) (by kernel_rfl) (by kernel_rfl) (by kernel_rfl) (by kernel_rfl) (by kernel_rfl)
def ti13 : TI := ⟨.struct [(0, 9), (1, 12)], 2, 24, [.str [], .int .u64 0]⟩
theorem tiok13 : TIOk Try.prog 13 ti13 := TIOk.of ⟨_, Try.underlying13, rfl⟩ (by kernel_rfl) (by kernel_rfl) (by kernel_rfl) (by kernel_rfl) (by kernel_rfl) (by kernel_rfl)
def ti14 : TI := ⟨.struct [(0, 9), (1, 12)], 2, 24, [.str [], .int .u64 0]⟩
theorem tiok14 : TIOk Try.prog 14 ti14 := TIOk.of ⟨_, Try.underlying14, rfl⟩ (by kernel_rfl) (by kernel_rfl) (by kernel_rfl) (by kernel_rfl) (by kernel_rfl) (by kernel_rfl)
def ti15 : TI := ⟨.ptr 128, 1, 8, [.nilp]⟩
theorem tiok15 : TIOk Try.prog 15 ti15 := TIOk.of (Try.underlying15) (by kernel_rfl) (by kernel_rfl) (by kernel_rfl) (by kernel_rfl) (by kernel_rfl) (by kernel_rfl)
def ti16 : TI := ⟨.ptr 131, 1, 8, [.nilp]⟩
theorem tiok16 : TIOk Try.prog 16 ti16 := TIOk.of (Try.underlying16) (by kernel_rfl) (by kernel_rfl) (by kernel_rfl) (by kernel_rfl) (by kernel_rfl) (by kernel_rfl)
def ti17 : TI := ⟨.ptr 141, 1, 8, [.nilp]⟩
theorem tiok17 : TIOk Try.prog 17 ti17 := TIOk.of (Try.underlying17) (by kernel_rfl) (by kernel_rfl) (by kernel_rfl) (by kernel_rfl) (by kernel_rfl) (by kernel_rfl)
def ti18 : TI := ⟨.struct [(0, 17)], 1, 8, [.nilp]⟩
theorem tiok18 : TIOk Try.prog 18 ti18 := TIOk.of ⟨_, Try.underlying18, rfl⟩ (by kernel_rfl) (by kernel_rfl) (by kernel_rfl) (by kernel_rfl) (by kernel_rfl) (by kernel_rfl)
def ti19 : TI := ⟨.struct [(0, 17)], 1, 8, [.nilp]⟩
theorem tiok19 : TIOk Try.prog 19 ti19 := TIOk.of ⟨_, Try.underlying19, rfl⟩ (by kernel_rfl) (by kernel_rfl) (by kernel_rfl) (by kernel_rfl) (by kernel_rfl) (by kernel_rfl)
def ti20 : TI := ⟨.iface, 1, 16, [.nili]⟩
theorem tiok20 : TIOk Try.prog 20 ti20 := TIOk.of ⟨_, Try.underlying20⟩ (by kernel_rfl) (by kernel_rfl) (by kernel_rfl) (by kernel_rfl) (by kernel_rfl) (by kernel_rfl)
def ti21 : TI := ⟨.int .i32, 1, 4, [.int .i32 0]⟩
theorem tiok21 : TIOk Try.prog 21 ti21 := TIOk.of (Try.underlying21) (by kernel_rfl) (by kernel_rfl) (by kernel_rfl) (by kernel_rfl) (by kernel_rfl) (by kernel_rfl)
def ti22 : TI := ⟨.slice 34, 1, 24, [.nil]⟩
theorem tiok22 : TIOk Try.prog 22 ti22 := TIOk.of (Try.underlying22) (by kernel_rfl) (by kernel_rfl) (by kernel_rfl) (by kernel_rfl) (by kernel_rfl) (by kernel_rfl)
def ti24 : TI := ⟨.cpx .f64, 1, 16, [.cpx .f64 0 0]⟩
theorem tiok24 : TIOk Try.prog 24 ti24 := TIOk.of (Try.underlying24) (by kernel_rfl) (by kernel_rfl) (by kernel_rfl) (by kernel_rfl) (by kernel_rfl) (by kernel_rfl)
def ti25 : TI := ⟨.int .i64, 1, 8, [.int .i64 0]⟩
theorem tiok25 : TIOk Try.prog 25 ti25 := TIOk.of (Try.underlying25) (by kernel_rfl) (by kernel_rfl) (by kernel_rfl) (by kernel_rfl) (by kernel_rfl) (by kernel_rfl)
def ti30 : TI := ⟨.slice 94, 1, 24, [.nil]⟩
theorem tiok30 : TIOk Try.prog 30 ti30 := TIOk.of (Try.underlying30) (by kernel_rfl) (by kernel_rfl) (by kernel_rfl) (by kernel_rfl) (by kernel_rfl) (by kernel_rfl)
def ti32 : TI := ⟨.flt .f64, 1, 8, [.flt .f64 0]⟩
theorem tiok32 : TIOk Try.prog 32 ti32 := TIOk.of (Try.underlying32) (by kernel_rfl) (by kernel_rfl) (by kernel_rfl) (by kernel_rfl) (by kernel_rfl) (by kernel_rfl)
def ti33 : TI := ⟨.struct [(0, 3), (1, 3), (2, 3)], 3, 24, [.int .i64 0, .int .i64 0, .int .i64 0]⟩
theorem tiok33 : TIOk Try.prog 33 ti33 := TIOk.of ⟨_, Try.underlying33, rfl⟩ (by kernel_rfl) (by kernel_rfl) (by kernel_rfl) (by kernel_rfl) (by kernel_rfl) (by kernel_rfl)
def ti34 : TI := ⟨.struct [(0, 3), (1, 3), (2, 3)], 3, 24, [.int .i64 0, .int .i64 0, .int .i64 0]⟩
theorem tiok34 : TIOk Try.prog 34 ti34 := TIOk.of ⟨_, Try.underlying34, rfl⟩ (by kernel_rfl) (by kernel_rfl) (by kernel_rfl) (by kernel_rfl) (by kernel_rfl) (by kernel_rfl)
def ti37 : TI := ⟨.slice 143, 1, 24, [.nil]⟩
theorem tiok37 : TIOk Try.prog 37 ti37 := TIOk.of (Try.underlying37) (by kernel_rfl) (by kernel_rfl) (by kernel_rfl) (by kernel_rfl) (by kernel_rfl) (by kernel_rfl)
def ti38 : TI := ⟨.struct [(0, 3), (1, 3), (2, 3)], 3, 24, [.int .i64 0, .int .i64 0, .int .i64 0]⟩
theorem tiok38 : TIOk Try.prog 38 ti38 := TIOk.of ⟨_, Try.underlying38, rfl⟩ (by kernel_rfl) (by kernel_rfl) (by kernel_rfl) (by kernel_rfl) (by kernel_rfl) (by kernel_rfl)
def ti39 : TI := ⟨.struct [(0, 3), (1, 3), (2, 3)], 3, 24, [.int .i64 0, .int .i64 0, .int .i64 0]⟩
theorem tiok39 : TIOk Try.prog 39 ti39 := TIOk.of ⟨_, Try.underlying39, rfl⟩ (by kernel_rfl) (by kernel_rfl) (by kernel_rfl) (by kernel_rfl) (by kernel_rfl) (by kernel_rfl)
def ti40 : TI := ⟨.slice 3, 1, 24, [.nil]⟩
theorem tiok40 : TIOk Try.prog 40 ti40 := TIOk.of (Try.underlying40) (by kernel_rfl) (by kernel_rfl) (by kernel_rfl) (by kernel_rfl) (by kernel_rfl) (by kernel_rfl)
def ti41 : TI := ⟨.struct [(0, 37), (1, 39), (4, 39), (7, 3), (8, 3), (9, 3), (10, 3), (11, 3), (12, 3), (13, 40), (14, 40), (15, 40)], 16, 192, [.nil, .int .i64 0, .int .i64 0, .int .i64 0, .int .i64 0, .int .i64 0, .int .i64 0, .int .i64 0, .int .i64 0, .int .i64 0, .int .i64 0, .int .i64 0, .int .i64 0, .nil, .nil, .nil]⟩
theorem tiok41 : TIOk Try.prog 41 ti41 := TIOk.of ⟨_, Try.underlying41, rfl⟩ (by kernel_rfl) (by kernel_rfl) (by kernel_rfl) (by kernel_rfl) (by kernel_rfl) (by kernel_rfl)
def ti42 : TI := ⟨.struct [(0, 37), (1, 39), (4, 39), (7, 3), (8, 3), (9, 3), (10, 3), (11, 3), (12, 3), (13, 40), (14, 40), (15, 40)], 16, 192, [.nil, .int .i64 0, .int .i64 0, .int .i64 0, .int .i64 0, .int .i64 0, .int .i64 0, .int .i64 0, .int .i64 0, .int .i64 0, .int .i64 0, .int .i64 0, .int .i64 0, .nil, .nil, .nil]⟩
theorem tiok42 : TIOk Try.prog 42 ti42 := TIOk.of ⟨_, Try.underlying42, rfl⟩ (by kernel_rfl) (by kernel_rfl) (by kernel_rfl) (by kernel_rfl) (by kernel_rfl) (by kernel_rfl)
def ti43 : TI := ⟨.slice 145, 1, 24, [.nil]⟩
theorem tiok43 : TIOk Try.prog 43 ti43 := TIOk.of (Try.underlying43) (by kernel_rfl) (by kernel_rfl) (by kernel_rfl) (by kernel_rfl) (by kernel_rfl) (by kernel_rfl)
def ti44 : TI := ⟨.struct [(0, 3), (1, 3), (2, 3), (3, 3), (4, 3), (5, 42), (21, 43)], 22, 256, [.int .i64 0, .int .i64 0, .int .i64 0, .int .i64 0, .int .i64 0, .nil, .int .i64 0, .int .i64 0, .int .i64 0, .int .i64 0, .int .i64 0, .int .i64 0, .int .i64 0, .int .i64 0, .int .i64 0, .int .i64 0, .int .i64 0, .int .i64 0, .nil, .nil, .nil, .nil]⟩
theorem tiok44 : TIOk Try.prog 44 ti44 := TIOk.of ⟨_, Try.underlying44, rfl⟩ (by kernel_rfl) (by kernel_rfl) (by kernel_rfl) (by kernel_rfl) (by kernel_rfl) (by kernel_rfl)
def ti45 : TI := ⟨.struct [(0, 3), (1, 3), (2, 3), (3, 3), (4, 3), (5, 42), (21, 43)], 22, 256, [.int .i64 0, .int .i64 0, .int .i64 0, .int .i64 0, .int .i64 0, .nil, .int .i64 0, .int .i64 0, .int .i64 0, .int .i64 0, .int .i64 0, .int .i64 0, .int .i64 0, .int .i64 0, .int .i64 0, .int .i64 0, .int .i64 0, .int .i64 0, .nil, .nil, .nil, .nil]⟩
theorem tiok45 : TIOk Try.prog 45 ti45 := TIOk.of ⟨_, Try.underlying45, rfl⟩ (by kernel_rfl) (by kernel_rfl) (by kernel_rfl) (by kernel_rfl) (by kernel_rfl) (by kernel_rfl)
def ti46 : TI := ⟨.slice 78, 1, 24, [.nil]⟩
theorem tiok46 : TIOk Try.prog 46 ti46 := TIOk.of (Try.underlying46) (by kernel_rfl) (by kernel_rfl) (by kernel_rfl) (by kernel_rfl) (by kernel_rfl) (by kernel_rfl)
def ti53 : TI := ⟨.slice 5, 1, 24, [.nil]⟩
theorem tiok53 : TIOk Try.prog 53 ti53 := TIOk.of (Try.underlying53) (by kernel_rfl) (by kernel_rfl) (by kernel_rfl) (by kernel_rfl) (by kernel_rfl) (by kernel_rfl)
def ti54 : TI := ⟨.int .u16, 1, 2, [.int .u16 0]⟩
theorem tiok54 : TIOk Try.prog 54 ti54 := TIOk.of (Try.underlying54) (by kernel_rfl) (by kernel_rfl) (by kernel_rfl) (by kernel_rfl) (by kernel_rfl) (by kernel_rfl)
def ti55 : TI := ⟨.slice 68, 1, 24, [.nil]⟩
theorem tiok55 : TIOk Try.prog 55 ti55 := TIOk.of (Try.underlying55) (by kernel_rfl) (by kernel_rfl) (by kernel_rfl) (by kernel_rfl) (by kernel_rfl) (by kernel_rfl)
def ti56 : TI := ⟨.struct [(0, 55)], 1, 24, [.nil]⟩
theorem tiok56 : TIOk Try.prog 56 ti56 := TIOk.of ⟨_, Try.underlying56, rfl⟩ (by kernel_rfl) (by kernel_rfl) (by kernel_rfl) (by kernel_rfl) (by kernel_rfl) (by kernel_rfl)
def ti57 : TI := ⟨.struct [(0, 55)], 1, 24, [.nil]⟩
theorem tiok57 : TIOk Try.prog 57 ti57 := TIOk.of ⟨_, Try.underlying57, rfl⟩ (by kernel_rfl) (by kernel_rfl) (by kernel_rfl) (by kernel_rfl) (by kernel_rfl) (by kernel_rfl)
def ti60 : TI := ⟨.struct [(0, 3), (1, 3), (2, 3), (3, 3), (4, 4)], 5, 40, [.int .i64 0, .int .i64 0, .int .i64 0, .int .i64 0, .bool false]⟩
theorem tiok60 : TIOk Try.prog 60 ti60 := TIOk.of ⟨_, Try.underlying60, rfl⟩ (by kernel_rfl) (by kernel_rfl) (by kernel_rfl) (by kernel_rfl) (by kernel_rfl) (by kernel_rfl)
def ti61 : TI := ⟨.struct [(0, 3), (1, 3), (2, 3), (3, 3), (4, 4)], 5, 40, [.int .i64 0, .int .i64 0, .int .i64 0, .int .i64 0, .bool false]⟩
theorem tiok61 : TIOk Try.prog 61 ti61 := TIOk.of ⟨_, Try.underlying61, rfl⟩ (by kernel_rfl) (by kernel_rfl) (by kernel_rfl) (by kernel_rfl) (by kernel_rfl) (by kernel_rfl)
def ti62 : TI := ⟨.struct [(0, 3), (1, 3), (2, 61)], 7, 56, [.int .i64 0, .int .i64 0, .int .i64 0, .int .i64 0, .int .i64 0, .int .i64 0, .bool false]⟩
theorem tiok62 : TIOk Try.prog 62 ti62 := TIOk.of ⟨_, Try.underlying62, rfl⟩ (by kernel_rfl) (by kernel_rfl) (by kernel_rfl) (by kernel_rfl) (by kernel_rfl) (by kernel_rfl)
def ti63 : TI := ⟨.struct [(0, 3), (1, 3), (2, 61)], 7, 56, [.int .i64 0, .int .i64 0, .int .i64 0, .int .i64 0, .int .i64 0, .int .i64 0, .bool false]⟩
theorem tiok63 : TIOk Try.prog 63 ti63 := TIOk.of ⟨_, Try.underlying63, rfl⟩ (by kernel_rfl) (by kernel_rfl) (by kernel_rfl) (by kernel_rfl) (by kernel_rfl) (by kernel_rfl)
def ti66 : TI := ⟨.slice 63, 1, 24, [.nil]⟩
theorem tiok66 : TIOk Try.prog 66 ti66 := TIOk.of (Try.underlying66) (by kernel_rfl) (by kernel_rfl) (by kernel_rfl) (by kernel_rfl) (by kernel_rfl) (by kernel_rfl)
def ti67 : TI := ⟨.struct [(0, 3), (1, 3), (2, 3), (3, 66), (4, 46)], 5, 72, [.int .i64 0, .int .i64 0, .int .i64 0, .nil, .nil]⟩
theorem tiok67 : TIOk Try.prog 67 ti67 := TIOk.of ⟨_, Try.underlying67, rfl⟩ (by kernel_rfl) (by kernel_rfl) (by kernel_rfl) (by kernel_rfl) (by kernel_rfl) (by kernel_rfl)
def ti68 : TI := ⟨.struct [(0, 3), (1, 3), (2, 3), (3, 66), (4, 46)], 5, 72, [.int .i64 0, .int .i64 0, .int .i64 0, .nil, .nil]⟩
theorem tiok68 : TIOk Try.prog 68 ti68 := TIOk.of ⟨_, Try.underlying68, rfl⟩ (by kernel_rfl) (by kernel_rfl) (by kernel_rfl) (by kernel_rfl) (by kernel_rfl) (by kernel_rfl)
def ti75 : TI := ⟨.array 256 4, 256, 256, List.replicate 256 (.bool false)⟩
theorem tiok75 : TIOk Try.prog 75 ti75 := TIOk.of (Try.underlying75) (by kernel_rfl) (by kernel_rfl) (by kernel_rfl) (by kernel_rfl) (by kernel_rfl) (by kernel_rfl)
def ti77 : TI := ⟨.struct [(0, 3), (1, 3), (2, 3), (3, 3)], 4, 32, [.int .i64 0, .int .i64 0, .int .i64 0, .int .i64 0]⟩
theorem tiok77 : TIOk Try.prog 77 ti77 := TIOk.of ⟨_, Try.underlying77, rfl⟩ (by kernel_rfl) (by kernel_rfl) (by kernel_rfl) (by kernel_rfl) (by kernel_rfl) (by kernel_rfl)
def ti78 : TI := ⟨.struct [(0, 3), (1, 3), (2, 3), (3, 3)], 4, 32, [.int .i64 0, .int .i64 0, .int .i64 0, .int .i64 0]⟩
theorem tiok78 : TIOk Try.prog 78 ti78 := TIOk.of ⟨_, Try.underlying78, rfl⟩ (by kernel_rfl) (by kernel_rfl) (by kernel_rfl) (by kernel_rfl) (by kernel_rfl) (by kernel_rfl)
def ti80 : TI := ⟨.slice 90, 1, 24, [.nil]⟩
theorem tiok80 : TIOk Try.prog 80 ti80 := TIOk.of (Try.underlying80) (by kernel_rfl) (by kernel_rfl) (by kernel_rfl) (by kernel_rfl) (by kernel_rfl) (by kernel_rfl)
def ti81 : TI := ⟨.slice 86, 1, 24, [.nil]⟩
theorem tiok81 : TIOk Try.prog 81 ti81 := TIOk.of (Try.underlying81) (by kernel_rfl) (by kernel_rfl) (by kernel_rfl) (by kernel_rfl) (by kernel_rfl) (by kernel_rfl)
def ti84 : TI := ⟨.struct [(0, 3), (1, 3), (2, 3), (3, 3), (4, 4)], 5, 40, [.int .i64 0, .int .i64 0, .int .i64 0, .int .i64 0, .bool false]⟩
theorem tiok84 : TIOk Try.prog 84 ti84 := TIOk.of ⟨_, Try.underlying84, rfl⟩ (by kernel_rfl) (by kernel_rfl) (by kernel_rfl) (by kernel_rfl) (by kernel_rfl) (by kernel_rfl)
def ti85 : TI := ⟨.struct [(0, 3), (1, 3), (2, 3), (3, 3), (4, 84), (9, 78)], 13, 104, [.int .i64 0, .int .i64 0, .int .i64 0, .int .i64 0, .int .i64 0, .int .i64 0, .int .i64 0, .int .i64 0, .bool false, .int .i64 0, .int .i64 0, .int .i64 0, .int .i64 0]⟩
theorem tiok85 : TIOk Try.prog 85 ti85 := TIOk.of ⟨_, Try.underlying85, rfl⟩ (by kernel_rfl) (by kernel_rfl) (by kernel_rfl) (by kernel_rfl) (by kernel_rfl) (by kernel_rfl)
def ti86 : TI := ⟨.struct [(0, 3), (1, 3), (2, 3), (3, 3), (4, 84), (9, 78)], 13, 104, [.int .i64 0, .int .i64 0, .int .i64 0, .int .i64 0, .int .i64 0, .int .i64 0, .int .i64 0, .int .i64 0, .bool false, .int .i64 0, .int .i64 0, .int .i64 0, .int .i64 0]⟩
theorem tiok86 : TIOk Try.prog 86 ti86 := TIOk.of ⟨_, Try.underlying86, rfl⟩ (by kernel_rfl) (by kernel_rfl) (by kernel_rfl) (by kernel_rfl) (by kernel_rfl) (by kernel_rfl)
def ti89 : TI := ⟨.struct [(0, 3), (1, 3), (2, 3), (3, 3), (4, 61), (9, 78)], 13, 104, [.int .i64 0, .int .i64 0, .int .i64 0, .int .i64 0, .int .i64 0, .int .i64 0, .int .i64 0, .int .i64 0, .bool false, .int .i64 0, .int .i64 0, .int .i64 0, .int .i64 0]⟩
theorem tiok89 : TIOk Try.prog 89 ti89 := TIOk.of ⟨_, Try.underlying89, rfl⟩ (by kernel_rfl) (by kernel_rfl) (by kernel_rfl) (by kernel_rfl) (by kernel_rfl) (by kernel_rfl)
def ti90 : TI := ⟨.struct [(0, 3), (1, 3), (2, 3), (3, 3), (4, 61), (9, 78)], 13, 104, [.int .i64 0, .int .i64 0, .int .i64 0, .int .i64 0, .int .i64 0, .int .i64 0, .int .i64 0, .int .i64 0, .bool false, .int .i64 0, .int .i64 0, .int .i64 0, .int .i64 0]⟩
theorem tiok90 : TIOk Try.prog 90 ti90 := TIOk.of ⟨_, Try.underlying90, rfl⟩ (by kernel_rfl) (by kernel_rfl) (by kernel_rfl) (by kernel_rfl) (by kernel_rfl) (by kernel_rfl)
def ti94 : TI := ⟨.struct [(0, 3), (1, 3), (2, 3)], 3, 24, [.int .i64 0, .int .i64 0, .int .i64 0]⟩
theorem tiok94 : TIOk Try.prog 94 ti94 := TIOk.of ⟨_, Try.underlying94, rfl⟩ (by kernel_rfl) (by kernel_rfl) (by kernel_rfl) (by kernel_rfl) (by kernel_rfl) (by kernel_rfl)
def ti119 : TI := ⟨.int .u64, 1, 8, [.int .u64 0]⟩
theorem tiok119 : TIOk Try.prog 119 ti119 := TIOk.of (Try.underlying119) (by kernel_rfl) (by kernel_rfl) (by kernel_rfl) (by kernel_rfl) (by kernel_rfl) (by kernel_rfl)
def ti127 : TI := ⟨.struct [(0, 17), (1, 17), (2, 17), (3, 9)], 4, 40, [.nilp, .nilp, .nilp, .str []]⟩
theorem tiok127 : TIOk Try.prog 127 ti127 := TIOk.of ⟨_, Try.underlying127, rfl⟩ (by kernel_rfl) (by kernel_rfl) (by kernel_rfl) (by kernel_rfl) (by kernel_rfl) (by kernel_rfl)
def ti128 : TI := ⟨.struct [(0, 17), (1, 17), (2, 17), (3, 9)], 4, 40, [.nilp, .nilp, .nilp, .str []]⟩
theorem tiok128 : TIOk Try.prog 128 ti128 := TIOk.of ⟨_, Try.underlying128, rfl⟩ (by kernel_rfl) (by kernel_rfl) (by kernel_rfl) (by kernel_rfl) (by kernel_rfl) (by kernel_rfl)
def ti129 : TI := ⟨.array 0 16, 0, 0, []⟩
theorem tiok129 : TIOk Try.prog 129 ti129 := TIOk.of (Try.underlying129) (by kernel_rfl) (by kernel_rfl) (by kernel_rfl) (by kernel_rfl) (by kernel_rfl) (by kernel_rfl)
def ti130 : TI := ⟨.struct [(0, 129)], 0, 0, []⟩
theorem tiok130 : TIOk Try.prog 130 ti130 := TIOk.of ⟨_, Try.underlying130, rfl⟩ (by kernel_rfl) (by kernel_rfl) (by kernel_rfl) (by kernel_rfl) (by kernel_rfl) (by kernel_rfl)
def ti131 : TI := ⟨.struct [(0, 129)], 0, 0, []⟩
theorem tiok131 : TIOk Try.prog 131 ti131 := TIOk.of ⟨_, Try.underlying131, rfl⟩ (by kernel_rfl) (by kernel_rfl) (by kernel_rfl) (by kernel_rfl) (by kernel_rfl) (by kernel_rfl)
def ti133 : TI := ⟨.int .u32, 1, 4, [.int .u32 0]⟩
theorem tiok133 : TIOk Try.prog 133 ti133 := TIOk.of (Try.underlying133) (by kernel_rfl) (by kernel_rfl) (by kernel_rfl) (by kernel_rfl) (by kernel_rfl) (by kernel_rfl)
def ti134 : TI := ⟨.int .u8, 1, 1, [.int .u8 0]⟩
theorem tiok134 : TIOk Try.prog 134 ti134 := TIOk.of (Try.underlying134) (by kernel_rfl) (by kernel_rfl) (by kernel_rfl) (by kernel_rfl) (by kernel_rfl) (by kernel_rfl)
def ti135 : TI := ⟨.int .u8, 1, 1, [.int .u8 0]⟩
theorem tiok135 : TIOk Try.prog 135 ti135 := TIOk.of (Try.underlying135) (by kernel_rfl) (by kernel_rfl) (by kernel_rfl) (by kernel_rfl) (by kernel_rfl) (by kernel_rfl)
def ti137 : TI := ⟨.ptr 5, 1, 8, [.nilp]⟩
theorem tiok137 : TIOk Try.prog 137 ti137 := TIOk.of (Try.underlying137) (by kernel_rfl) (by kernel_rfl) (by kernel_rfl) (by kernel_rfl) (by kernel_rfl) (by kernel_rfl)
def ti138 : TI := ⟨.int .i32, 1, 4, [.int .i32 0]⟩
theorem tiok138 : TIOk Try.prog 138 ti138 := TIOk.of (Try.underlying138) (by kernel_rfl) (by kernel_rfl) (by kernel_rfl) (by kernel_rfl) (by kernel_rfl) (by kernel_rfl)
def ti139 : TI := ⟨.int .i32, 1, 4, [.int .i32 0]⟩
theorem tiok139 : TIOk Try.prog 139 ti139 := TIOk.of (Try.underlying139) (by kernel_rfl) (by kernel_rfl) (by kernel_rfl) (by kernel_rfl) (by kernel_rfl) (by kernel_rfl)
def ti142 : TI := ⟨.struct [(0, 9), (1, 9), (2, 3)], 3, 40, [.str [], .str [], .int .i64 0]⟩
theorem tiok142 : TIOk Try.prog 142 ti142 := TIOk.of ⟨_, Try.underlying142, rfl⟩ (by kernel_rfl) (by kernel_rfl) (by kernel_rfl) (by kernel_rfl) (by kernel_rfl) (by kernel_rfl)
def ti143 : TI := ⟨.struct [(0, 9), (1, 9), (2, 3)], 3, 40, [.str [], .str [], .int .i64 0]⟩
theorem tiok143 : TIOk Try.prog 143 ti143 := TIOk.of ⟨_, Try.underlying143, rfl⟩ (by kernel_rfl) (by kernel_rfl) (by kernel_rfl) (by kernel_rfl) (by kernel_rfl) (by kernel_rfl)
def ti144 : TI := ⟨.struct [(0, 3), (1, 39)], 4, 32, [.int .i64 0, .int .i64 0, .int .i64 0, .int .i64 0]⟩
theorem tiok144 : TIOk Try.prog 144 ti144 := TIOk.of ⟨_, Try.underlying144, rfl⟩ (by kernel_rfl) (by kernel_rfl) (by kernel_rfl) (by kernel_rfl) (by kernel_rfl) (by kernel_rfl)
def ti145 : TI := ⟨.struct [(0, 3), (1, 39)], 4, 32, [.int .i64 0, .int .i64 0, .int .i64 0, .int .i64 0]⟩
theorem tiok145 : TIOk Try.prog 145 ti145 := TIOk.of ⟨_, Try.underlying145, rfl⟩ (by kernel_rfl) (by kernel_rfl) (by kernel_rfl) (by kernel_rfl) (by kernel_rfl) (by kernel_rfl)
def tabL : List (Nat × TI) := [(2, ti2), (3, ti3), (4, ti4), (5, ti5), (6, ti6), (7, ti7), (8, ti8), (9, ti9), (10, ti10), (11, ti11), (12, ti12), (13, ti13), (14, ti14), (15, ti15), (16, ti16), (17, ti17), (18, ti18), (19, ti19), (20, ti20), (21, ti21), (22, ti22), (24, ti24), (25, ti25), (30, ti30), (32, ti32), (33, ti33), (34, ti34), (37, ti37), (38, ti38), (39, ti39), (40, ti40), (41, ti41), (42, ti42), (43, ti43), (44, ti44), (45, ti45), (46, ti46), (53, ti53), (54, ti54), (55, ti55), (56, ti56), (57, ti57), (60, ti60), (61, ti61), (62, ti62), (63, ti63), (66, ti66), (67, ti67), (68, ti68), (75, ti75), (77, ti77), (78, ti78), (80, ti80), (81, ti81), (84, ti84), (85, ti85), (86, ti86), (89, ti89), (90, ti90), (94, ti94), (119, ti119), (127, ti127), (128, ti128), (129, ti129), (130, ti130), (131, ti131), (133, ti133), (134, ti134), (135, ti135), (137, ti137), (138, ti138), (139, ti139), (142, ti142), (143, ti143), (144, ti144), (145, ti145)]
def tab (t : Nat) : Option TI := lookT tabL t
theorem tabOk : TabOk Try.prog tab := fun _ _ h => allT (show AllT Try.prog tabL from ⟨tiok2, tiok3, tiok4, tiok5, tiok6, tiok7, tiok8, tiok9, tiok10, tiok11, tiok12, tiok13, tiok14, tiok15, tiok16, tiok17, tiok18, tiok19, tiok20, tiok21, tiok22, tiok24, tiok25, tiok30, tiok32, tiok33, tiok34, tiok37, tiok38, tiok39, tiok40, tiok41, tiok42, tiok43, tiok44, tiok45, tiok46, tiok53, tiok54, tiok55, tiok56, tiok57, tiok60, tiok61, tiok62, tiok63, tiok66, tiok67, tiok68, tiok75, tiok77, tiok78, tiok80, tiok81, tiok84, tiok85, tiok86, tiok89, tiok90, tiok94, tiok119, tiok127, tiok128, tiok129, tiok130, tiok131, tiok133, tiok134, tiok135, tiok137, tiok138, tiok139, tiok142, tiok143, tiok144, tiok145, trivial⟩) h
@[simp] theorem tab_2 : tab 2 = some ⟨.int .i64, 1, 8, [.int .i64 0]⟩ := rfl
@[simp] theorem tab_3 : tab 3 = some ⟨.int .i64, 1, 8, [.int .i64 0]⟩ := rfl
@[simp] theorem tab_4 : tab 4 = some ⟨.bool, 1, 1, [.bool false]⟩ := rfl
@[simp] theorem tab_5 : tab 5 = some ⟨.int .u8, 1, 1, [.int .u8 0]⟩ := rfl
@[simp] theorem tab_6 : tab 6 = some ⟨.int .u8, 1, 1, [.int .u8 0]⟩ := rfl
@[simp] theorem tab_7 : tab 7 = some ⟨.struct [(0, 2), (1, 3), (2, 4), (3, 6)], 4, 24, [.int .i64 0, .int .i64 0, .bool false, .int .u8 0]⟩ := rfl
@[simp] theorem tab_8 : tab 8 = some ⟨.struct [(0, 2), (1, 3), (2, 4), (3, 6)], 4, 24, [.int .i64 0, .int .i64 0, .bool false, .int .u8 0]⟩ := rfl
@[simp] theorem tab_9 : tab 9 = some ⟨.str, 1, 16, [.str []]⟩ := rfl
@[simp] theorem tab_10 : tab 10 = some ⟨.str, 1, 16, [.str []]⟩ := rfl
@[simp] theorem tab_11 : tab 11 = some ⟨.str, 1, 16, [.str []]⟩ := rfl
@[simp] theorem tab_12 : tab 12 = some ⟨.int .u64, 1, 8, [.int .u64 0]⟩ := rfl
@[simp] theorem tab_13 : tab 13 = some ⟨.struct [(0, 9), (1, 12)], 2, 24, [.str [], .int .u64 0]⟩ := rfl
@[simp] theorem tab_14 : tab 14 = some ⟨.struct [(0, 9), (1, 12)], 2, 24, [.str [], .int .u64 0]⟩ := rfl
@[simp] theorem tab_15 : tab 15 = some ⟨.ptr 128, 1, 8, [.nilp]⟩ := rfl
@[simp] theorem tab_16 : tab 16 = some ⟨.ptr 131, 1, 8, [.nilp]⟩ := rfl
@[simp] theorem tab_17 : tab 17 = some ⟨.ptr 141, 1, 8, [.nilp]⟩ := rfl
@[simp] theorem tab_18 : tab 18 = some ⟨.struct [(0, 17)], 1, 8, [.nilp]⟩ := rfl
@[simp] theorem tab_19 : tab 19 = some ⟨.struct [(0, 17)], 1, 8, [.nilp]⟩ := rfl
@[simp] theorem tab_20 : tab 20 = some ⟨.iface, 1, 16, [.nili]⟩ := rfl
@[simp] theorem tab_21 : tab 21 = some ⟨.int .i32, 1, 4, [.int .i32 0]⟩ := rfl
@[simp] theorem tab_22 : tab 22 = some ⟨.slice 34, 1, 24, [.nil]⟩ := rfl
@[simp] theorem tab_24 : tab 24 = some ⟨.cpx .f64, 1, 16, [.cpx .f64 0 0]⟩ := rfl
@[simp] theorem tab_25 : tab 25 = some ⟨.int .i64, 1, 8, [.int .i64 0]⟩ := rfl
@[simp] theorem tab_30 : tab 30 = some ⟨.slice 94, 1, 24, [.nil]⟩ := rfl
@[simp] theorem tab_32 : tab 32 = some ⟨.flt .f64, 1, 8, [.flt .f64 0]⟩ := rfl
@[simp] theorem tab_33 : tab 33 = some ⟨.struct [(0, 3), (1, 3), (2, 3)], 3, 24, [.int .i64 0, .int .i64 0, .int .i64 0]⟩ := rfl
@[simp] theorem tab_34 : tab 34 = some ⟨.struct [(0, 3), (1, 3), (2, 3)], 3, 24, [.int .i64 0, .int .i64 0, .int .i64 0]⟩ := rfl
@[simp] theorem tab_37 : tab 37 = some ⟨.slice 143, 1, 24, [.nil]⟩ := rfl
@[simp] theorem tab_38 : tab 38 = some ⟨.struct [(0, 3), (1, 3), (2, 3)], 3, 24, [.int .i64 0, .int .i64 0, .int .i64 0]⟩ := rfl
@[simp] theorem tab_39 : tab 39 = some ⟨.struct [(0, 3), (1, 3), (2, 3)], 3, 24, [.int .i64 0, .int .i64 0, .int .i64 0]⟩ := rfl
@[simp] theorem tab_40 : tab 40 = some ⟨.slice 3, 1, 24, [.nil]⟩ := rfl
@[simp] theorem tab_41 : tab 41 = some ⟨.struct [(0, 37), (1, 39), (4, 39), (7, 3), (8, 3), (9, 3), (10, 3), (11, 3), (12, 3), (13, 40), (14, 40), (15, 40)], 16, 192, [.nil, .int .i64 0, .int .i64 0, .int .i64 0, .int .i64 0, .int .i64 0, .int .i64 0, .int .i64 0, .int .i64 0, .int .i64 0, .int .i64 0, .int .i64 0, .int .i64 0, .nil, .nil, .nil]⟩ := rfl
@[simp] theorem tab_42 : tab 42 = some ⟨.struct [(0, 37), (1, 39), (4, 39), (7, 3), (8, 3), (9, 3), (10, 3), (11, 3), (12, 3), (13, 40), (14, 40), (15, 40)], 16, 192, [.nil, .int .i64 0, .int .i64 0, .int .i64 0, .int .i64 0, .int .i64 0, .int .i64 0, .int .i64 0, .int .i64 0, .int .i64 0, .int .i64 0, .int .i64 0, .int .i64 0, .nil, .nil, .nil]⟩ := rfl
@[simp] theorem tab_43 : tab 43 = some ⟨.slice 145, 1, 24, [.nil]⟩ := rfl
@[simp] theorem tab_44 : tab 44 = some ⟨.struct [(0, 3), (1, 3), (2, 3), (3, 3), (4, 3), (5, 42), (21, 43)], 22, 256, [.int .i64 0, .int .i64 0, .int .i64 0, .int .i64 0, .int .i64 0, .nil, .int .i64 0, .int .i64 0, .int .i64 0, .int .i64 0, .int .i64 0, .int .i64 0, .int .i64 0, .int .i64 0, .int .i64 0, .int .i64 0, .int .i64 0, .int .i64 0, .nil, .nil, .nil, .nil]⟩ := rfl
@[simp] theorem tab_45 : tab 45 = some ⟨.struct [(0, 3), (1, 3), (2, 3), (3, 3), (4, 3), (5, 42), (21, 43)], 22, 256, [.int .i64 0, .int .i64 0, .int .i64 0, .int .i64 0, .int .i64 0, .nil, .int .i64 0, .int .i64 0, .int .i64 0, .int .i64 0, .int .i64 0, .int .i64 0, .int .i64 0, .int .i64 0, .int .i64 0, .int .i64 0, .int .i64 0, .int .i64 0, .nil, .nil, .nil, .nil]⟩ := rfl
@[simp] theorem tab_46 : tab 46 = some ⟨.slice 78, 1, 24, [.nil]⟩ := rfl
@[simp] theorem tab_53 : tab 53 = some ⟨.slice 5, 1, 24, [.nil]⟩ := rfl
@[simp] theorem tab_54 : tab 54 = some ⟨.int .u16, 1, 2, [.int .u16 0]⟩ := rfl
@[simp] theorem tab_55 : tab 55 = some ⟨.slice 68, 1, 24, [.nil]⟩ := rfl
@[simp] theorem tab_56 : tab 56 = some ⟨.struct [(0, 55)], 1, 24, [.nil]⟩ := rfl
@[simp] theorem tab_57 : tab 57 = some ⟨.struct [(0, 55)], 1, 24, [.nil]⟩ := rfl
@[simp] theorem tab_60 : tab 60 = some ⟨.struct [(0, 3), (1, 3), (2, 3), (3, 3), (4, 4)], 5, 40, [.int .i64 0, .int .i64 0, .int .i64 0, .int .i64 0, .bool false]⟩ := rfl
@[simp] theorem tab_61 : tab 61 = some ⟨.struct [(0, 3), (1, 3), (2, 3), (3, 3), (4, 4)], 5, 40, [.int .i64 0, .int .i64 0, .int .i64 0, .int .i64 0, .bool false]⟩ := rfl
@[simp] theorem tab_62 : tab 62 = some ⟨.struct [(0, 3), (1, 3), (2, 61)], 7, 56, [.int .i64 0, .int .i64 0, .int .i64 0, .int .i64 0, .int .i64 0, .int .i64 0, .bool false]⟩ := rfl
@[simp] theorem tab_63 : tab 63 = some ⟨.struct [(0, 3), (1, 3), (2, 61)], 7, 56, [.int .i64 0, .int .i64 0, .int .i64 0, .int .i64 0, .int .i64 0, .int .i64 0, .bool false]⟩ := rfl
@[simp] theorem tab_66 : tab 66 = some ⟨.slice 63, 1, 24, [.nil]⟩ := rfl
@[simp] theorem tab_67 : tab 67 = some ⟨.struct [(0, 3), (1, 3), (2, 3), (3, 66), (4, 46)], 5, 72, [.int .i64 0, .int .i64 0, .int .i64 0, .nil, .nil]⟩ := rfl
@[simp] theorem tab_68 : tab 68 = some ⟨.struct [(0, 3), (1, 3), (2, 3), (3, 66), (4, 46)], 5, 72, [.int .i64 0, .int .i64 0, .int .i64 0, .nil, .nil]⟩ := rfl
@[simp] theorem tab_75 : tab 75 = some ⟨.array 256 4, 256, 256, List.replicate 256 (.bool false)⟩ := rfl
@[simp] theorem tab_77 : tab 77 = some ⟨.struct [(0, 3), (1, 3), (2, 3), (3, 3)], 4, 32, [.int .i64 0, .int .i64 0, .int .i64 0, .int .i64 0]⟩ := rfl
@[simp] theorem tab_78 : tab 78 = some ⟨.struct [(0, 3), (1, 3), (2, 3), (3, 3)], 4, 32, [.int .i64 0, .int .i64 0, .int .i64 0, .int .i64 0]⟩ := rfl
@[simp] theorem tab_80 : tab 80 = some ⟨.slice 90, 1, 24, [.nil]⟩ := rfl
@[simp] theorem tab_81 : tab 81 = some ⟨.slice 86, 1, 24, [.nil]⟩ := rfl
@[simp] theorem tab_84 : tab 84 = some ⟨.struct [(0, 3), (1, 3), (2, 3), (3, 3), (4, 4)], 5, 40, [.int .i64 0, .int .i64 0, .int .i64 0, .int .i64 0, .bool false]⟩ := rfl
@[simp] theorem tab_85 : tab 85 = some ⟨.struct [(0, 3), (1, 3), (2, 3), (3, 3), (4, 84), (9, 78)], 13, 104, [.int .i64 0, .int .i64 0, .int .i64 0, .int .i64 0, .int .i64 0, .int .i64 0, .int .i64 0, .int .i64 0, .bool false, .int .i64 0, .int .i64 0, .int .i64 0, .int .i64 0]⟩ := rfl
@[simp] theorem tab_86 : tab 86 = some ⟨.struct [(0, 3), (1, 3), (2, 3), (3, 3), (4, 84), (9, 78)], 13, 104, [.int .i64 0, .int .i64 0, .int .i64 0, .int .i64 0, .int .i64 0, .int .i64 0, .int .i64 0, .int .i64 0, .bool false, .int .i64 0, .int .i64 0, .int .i64 0, .int .i64 0]⟩ := rfl
@[simp] theorem tab_89 : tab 89 = some ⟨.struct [(0, 3), (1, 3), (2, 3), (3, 3), (4, 61), (9, 78)], 13, 104, [.int .i64 0, .int .i64 0, .int .i64 0, .int .i64 0, .int .i64 0, .int .i64 0, .int .i64 0, .int .i64 0, .bool false, .int .i64 0, .int .i64 0, .int .i64 0, .int .i64 0]⟩ := rfl
@[simp] theorem tab_90 : tab 90 = some ⟨.struct [(0, 3), (1, 3), (2, 3), (3, 3), (4, 61), (9, 78)], 13, 104, [.int .i64 0, .int .i64 0, .int .i64 0, .int .i64 0, .int .i64 0, .int .i64 0, .int .i64 0, .int .i64 0, .bool false, .int .i64 0, .int .i64 0, .int .i64 0, .int .i64 0]⟩ := rfl
@[simp] theorem tab_94 : tab 94 = some ⟨.struct [(0, 3), (1, 3), (2, 3)], 3, 24, [.int .i64 0, .int .i64 0, .int .i64 0]⟩ := rfl
@[simp] theorem tab_119 : tab 119 = some ⟨.int .u64, 1, 8, [.int .u64 0]⟩ := rfl
@[simp] theorem tab_127 : tab 127 = some ⟨.struct [(0, 17), (1, 17), (2, 17), (3, 9)], 4, 40, [.nilp, .nilp, .nilp, .str []]⟩ := rfl
@[simp] theorem tab_128 : tab 128 = some ⟨.struct [(0, 17), (1, 17), (2, 17), (3, 9)], 4, 40, [.nilp, .nilp, .nilp, .str []]⟩ := rfl
@[simp] theorem tab_129 : tab 129 = some ⟨.array 0 16, 0, 0, []⟩ := rfl
@[simp] theorem tab_130 : tab 130 = some ⟨.struct [(0, 129)], 0, 0, []⟩ := rfl
@[simp] theorem tab_131 : tab 131 = some ⟨.struct [(0, 129)], 0, 0, []⟩ := rfl
@[simp] theorem tab_133 : tab 133 = some ⟨.int .u32, 1, 4, [.int .u32 0]⟩ := rfl
@[simp] theorem tab_134 : tab 134 = some ⟨.int .u8, 1, 1, [.int .u8 0]⟩ := rfl
@[simp] theorem tab_135 : tab 135 = some ⟨.int .u8, 1, 1, [.int .u8 0]⟩ := rfl
@[simp] theorem tab_137 : tab 137 = some ⟨.ptr 5, 1, 8, [.nilp]⟩ := rfl
@[simp] theorem tab_138 : tab 138 = some ⟨.int .i32, 1, 4, [.int .i32 0]⟩ := rfl
@[simp] theorem tab_139 : tab 139 = some ⟨.int .i32, 1, 4, [.int .i32 0]⟩ := rfl
@[simp] theorem tab_142 : tab 142 = some ⟨.struct [(0, 9), (1, 9), (2, 3)], 3, 40, [.str [], .str [], .int .i64 0]⟩ := rfl
@[simp] theorem tab_143 : tab 143 = some ⟨.struct [(0, 9), (1, 9), (2, 3)], 3, 40, [.str [], .str [], .int .i64 0]⟩ := rfl
@[simp] theorem tab_144 : tab 144 = some ⟨.struct [(0, 3), (1, 39)], 4, 32, [.int .i64 0, .int .i64 0, .int .i64 0, .int .i64 0]⟩ := rfl
@[simp] theorem tab_145 : tab 145 = some ⟨.struct [(0, 3), (1, 39)], 4, 32, [.int .i64 0, .int .i64 0, .int .i64 0, .int .i64 0]⟩ := rfl
theorem call_3 : Callable Try.prog 3 := ⟨⟨_, Try.func3, by kernel_rfl, by kernel_rfl⟩⟩
theorem call_4 : Callable Try.prog 4 := ⟨⟨_, Try.func4, by kernel_rfl, by kernel_rfl⟩⟩
theorem call_5 : Callable Try.prog 5 := ⟨⟨_, Try.func5, by kernel_rfl, by kernel_rfl⟩⟩
theorem call_6 : Callable Try.prog 6 := ⟨⟨_, Try.func6, by kernel_rfl, by kernel_rfl⟩⟩
theorem call_7 : Callable Try.prog 7 := ⟨⟨_, Try.func7, by kernel_rfl, by kernel_rfl⟩⟩
theorem call_8 : Callable Try.prog 8 := ⟨⟨_, Try.func8, by kernel_rfl, by kernel_rfl⟩⟩
theorem call_9 : Callable Try.prog 9 := ⟨⟨_, Try.func9, by kernel_rfl, by kernel_rfl⟩⟩
theorem call_10 : Callable Try.prog 10 := ⟨⟨_, Try.func10, by kernel_rfl, by kernel_rfl⟩⟩
theorem call_11 : Callable Try.prog 11 := ⟨⟨_, Try.func11, by kernel_rfl, by kernel_rfl⟩⟩
theorem call_12 : Callable Try.prog 12 := ⟨⟨_, Try.func12, by kernel_rfl, by kernel_rfl⟩⟩
theorem call_13 : Callable Try.prog 13 := ⟨⟨_, Try.func13, by kernel_rfl, by kernel_rfl⟩⟩
theorem call_14 : Callable Try.prog 14 := ⟨⟨_, Try.func14, by kernel_rfl, by kernel_rfl⟩⟩
theorem call_15 : Callable Try.prog 15 := ⟨⟨_, Try.func15, by kernel_rfl, by kernel_rfl⟩⟩
theorem call_16 : Callable Try.prog 16 := ⟨⟨_, Try.func16, by kernel_rfl, by kernel_rfl⟩⟩
theorem call_17 : Callable Try.prog 17 := ⟨⟨_, Try.func17, by kernel_rfl, by kernel_rfl⟩⟩
theorem call_18 : Callable Try.prog 18 := ⟨⟨_, Try.func18, by kernel_rfl, by kernel_rfl⟩⟩
theorem call_19 : Callable Try.prog 19 := ⟨⟨_, Try.func19, by kernel_rfl, by kernel_rfl⟩⟩
theorem call_20 : Callable Try.prog 20 := ⟨⟨_, Try.func20, by kernel_rfl, by kernel_rfl⟩⟩
theorem call_21 : Callable Try.prog 21 := ⟨⟨_, Try.func21, by kernel_rfl, by kernel_rfl⟩⟩
theorem call_22 : Callable Try.prog 22 := ⟨⟨_, Try.func22, by kernel_rfl, by kernel_rfl⟩⟩
theorem call_23 : Callable Try.prog 23 := ⟨⟨_, Try.func23, by kernel_rfl, by kernel_rfl⟩⟩
theorem call_24 : Callable Try.prog 24 := ⟨⟨_, Try.func24, by kernel_rfl, by kernel_rfl⟩⟩
theorem call_25 : Callable Try.prog 25 := ⟨⟨_, Try.func25, by kernel_rfl, by kernel_rfl⟩⟩
theorem call_26 : Callable Try.prog 26 := ⟨⟨_, Try.func26, by kernel_rfl, by kernel_rfl⟩⟩
theorem call_27 : Callable Try.prog 27 := ⟨⟨_, Try.func27, by kernel_rfl, by kernel_rfl⟩⟩
theorem call_28 : Callable Try.prog 28 := ⟨⟨_, Try.func28, by kernel_rfl, by kernel_rfl⟩⟩
theorem call_29 : Callable Try.prog 29 := ⟨⟨_, Try.func29, by kernel_rfl, by kernel_rfl⟩⟩
theorem call_30 : Callable Try.prog 30 := ⟨⟨_, Try.func30, by kernel_rfl, by kernel_rfl⟩⟩
theorem call_31 : Callable Try.prog 31 := ⟨⟨_, Try.func31, by kernel_rfl, by kernel_rfl⟩⟩
theorem call_32 : Callable Try.prog 32 := ⟨⟨_, Try.func32, by kernel_rfl, by kernel_rfl⟩⟩
theorem call_33 : Callable Try.prog 33 := ⟨⟨_, Try.func33, by kernel_rfl, by kernel_rfl⟩⟩
theorem call_34 : Callable Try.prog 34 := ⟨⟨_, Try.func34, by kernel_rfl, by kernel_rfl⟩⟩
theorem call_35 : Callable Try.prog 35 := ⟨⟨_, Try.func35, by kernel_rfl, by kernel_rfl⟩⟩
theorem call_36 : Callable Try.prog 36 := ⟨⟨_, Try.func36, by kernel_rfl, by kernel_rfl⟩⟩
theorem call_37 : Callable Try.prog 37 := ⟨⟨_, Try.func37, by kernel_rfl, by kernel_rfl⟩⟩
theorem call_38 : Callable Try.prog 38 := ⟨⟨_, Try.func38, by kernel_rfl, by kernel_rfl⟩⟩
theorem call_39 : Callable Try.prog 39 := ⟨⟨_, Try.func39, by kernel_rfl, by kernel_rfl⟩⟩
theorem call_40 : Callable Try.prog 40 := ⟨⟨_, Try.func40, by kernel_rfl, by kernel_rfl⟩⟩
theorem call_41 : Callable Try.prog 41 := ⟨⟨_, Try.func41, by kernel_rfl, by kernel_rfl⟩⟩
theorem call_42 : Callable Try.prog 42 := ⟨⟨_, Try.func42, by kernel_rfl, by kernel_rfl⟩⟩
theorem call_43 : Callable Try.prog 43 := ⟨⟨_, Try.func43, by kernel_rfl, by kernel_rfl⟩⟩
theorem call_44 : Callable Try.prog 44 := ⟨⟨_, Try.func44, by kernel_rfl, by kernel_rfl⟩⟩
theorem call_45 : Callable Try.prog 45 := ⟨⟨_, Try.func45, by kernel_rfl, by kernel_rfl⟩⟩
theorem call_46 : Callable Try.prog 46 := ⟨⟨_, Try.func46, by kernel_rfl, by kernel_rfl⟩⟩
theorem call_47 : Callable Try.prog 47 := ⟨⟨_, Try.func47, by kernel_rfl, by kernel_rfl⟩⟩
theorem call_48 : Callable Try.prog 48 := ⟨⟨_, Try.func48, by kernel_rfl, by kernel_rfl⟩⟩
theorem call_49 : Callable Try.prog 49 := ⟨⟨_, Try.func49, by kernel_rfl, by kernel_rfl⟩⟩
theorem call_50 : Callable Try.prog 50 := ⟨⟨_, Try.func50, by kernel_rfl, by kernel_rfl⟩⟩
theorem call_51 : Callable Try.prog 51 := ⟨⟨_, Try.func51, by kernel_rfl, by kernel_rfl⟩⟩
theorem call_52 : Callable Try.prog 52 := ⟨⟨_, Try.func52, by kernel_rfl, by kernel_rfl⟩⟩
theorem call_53 : Callable Try.prog 53 := ⟨⟨_, Try.func53, by kernel_rfl, by kernel_rfl⟩⟩
theorem call_54 : Callable Try.prog 54 := ⟨⟨_, Try.func54, by kernel_rfl, by kernel_rfl⟩⟩
theorem call_56 : Callable Try.prog 56 := ⟨⟨_, Try.func56, by kernel_rfl, by kernel_rfl⟩⟩
theorem call_58 : Callable Try.prog 58 := ⟨⟨_, Try.func58, by kernel_rfl, by kernel_rfl⟩⟩
theorem call_59 : Callable Try.prog 59 := ⟨⟨_, Try.func59, by kernel_rfl, by kernel_rfl⟩⟩
theorem call_60 : Callable Try.prog 60 := ⟨⟨_, Try.func60, by kernel_rfl, by kernel_rfl⟩⟩
theorem call_61 : Callable Try.prog 61 := ⟨⟨_, Try.func61, by kernel_rfl, by kernel_rfl⟩⟩
theorem call_62 : Callable Try.prog 62 := ⟨⟨_, Try.func62, by kernel_rfl, by kernel_rfl⟩⟩
theorem call_63 : Callable Try.prog 63 := ⟨⟨_, Try.func63, by kernel_rfl, by kernel_rfl⟩⟩
theorem call_64 : Callable Try.prog 64 := ⟨⟨_, Try.func64, by kernel_rfl, by kernel_rfl⟩⟩
theorem call_65 : Callable Try.prog 65 := ⟨⟨_, Try.func65, by kernel_rfl, by kernel_rfl⟩⟩
theorem call_66 : Callable Try.prog 66 := ⟨⟨_, Try.func66, by kernel_rfl, by kernel_rfl⟩⟩
@[simp] theorem bneI (a b : Int) : (a != b) = !decide (a = b) := by by_cases h : a = b <;> simp [h]
@[simp] theorem beqI (a b : Int) : (a == b) = decide (a = b) := by by_cases h : a = b <;> simp [h]
attribute [simp] frzAt List.take_of_length_le vids vidss cellD cellsD leR leA FV.le D.leL mskE mskS opTmps tmpsOf Op.operands Call.operands ptrsOf rdIds shIds isSh newOk gotE putE mvN mkEv wrEv updS getO Ev.app evDr1 evDr isStore ptrIds wrIds msk fids fidss oids evIds callS placesT evOne evPs ArgsOk ArgOk σ0 renE pickS srcV srcC evAp evCo seqQ blockQ retQ ren rens renO renOs σ1 setAll evOps wantS evOp evA evX evXs evOpt ofVal ofLeaf ofLeaves setS get evBin evInt evStr evCpx evFlt evLd evStN evIA evIx evFA evField evUn evCv evSl bnd ldD evBu lenV mxI mnI TI.ag D.cs elemAt mkV allD partV cellsV plainV fvCells spl evBd fillV partsD szD okEl TI.zeroD evB envFrom retAll retOne pack viewF viewFs D.flat D.flats flatV flatVs flatR keepE below belows belowE belowO belowS
end Go.Proofs.Ytndofikacmhejaa.Pay
