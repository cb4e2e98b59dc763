/- The table of types. Written by tab.py. -/
import Derived.Test.YtjlamhilnkadcaaDoorPayY
import Derived.Test.YtjlamhilnkadcaaDoorProg
import Derived.KernelRfl
namespace Go.Proofs.YtjlamhilnkadcaaDoor.Pay
open Go Go.Proofs
def lookT : List (Nat × TI) → Nat → Option TI
  | [], _ => none
  | (s, v) :: r, t => if s = t then some v else lookT r t
def AllT (P : Program) : List (Nat × TI) → Prop
  | [] => True
  | p :: r => TIOk P p.1 p.2 ∧ AllT P r
theorem allT {P : Program} : ∀ {l : List (Nat × TI)} {t : Nat} {i : TI}, AllT P l → lookT l t = some i → TIOk P t i
  | [], _, _, _, h => by simp [lookT] at h
  | (s, v) :: r, t, i, ha, h => by
    unfold lookT at h
    by_cases hs : s = t
    · rw [if_pos hs] at h; cases h; subst hs; exact ha.1
    · rw [if_neg hs] at h; exact allT ha.2 h
theorem TIOk.of {P : Program} {t : Nat} {i : TI} (hk : TKOk P t i.kind) (h : (P.info? t).isSome = true) (h1 : ((P.info? t).get h).size = i.size) (h2 : ((P.info? t).get h).bytes = i.bytes)
    (h3 : ((P.info? t).get h).zero.isSome = true) (h4 : ofLeaves (((P.info? t).get h).zero.get h3).cells.toList = some i.zero) (h5 : (((P.info? t).get h).zero.get h3).cells.size = i.size) : TIOk P t i :=
  ⟨hk, _, _, (Option.some_get h).symm, h1, h2, (Option.some_get h3).symm, h4, h5⟩
def ti2 : TI := ⟨.int .i64, 1, 8, [.int .i64 0]⟩
theorem tiok2 : TIOk Tryd.prog 2 ti2 := TIOk.of (Tryd.underlying2) (by kernel_rfl) (by kernel_rfl) (by kernel_rfl) (by kernel_rfl) (by kernel_rfl) (by kernel_rfl)
def ti3 : TI := ⟨.int .i64, 1, 8, [.int .i64 0]⟩
theorem tiok3 : TIOk Tryd.prog 3 ti3 := TIOk.of (Tryd.underlying3) (by kernel_rfl) (by kernel_rfl) (by kernel_rfl) (by kernel_rfl) (by kernel_rfl) (by kernel_rfl)
def ti4 : TI := ⟨.bool, 1, 1, [.bool false]⟩
theorem tiok4 : TIOk Tryd.prog 4 ti4 := TIOk.of (Tryd.underlying4) (by kernel_rfl) (by kernel_rfl) (by kernel_rfl) (by kernel_rfl) (by kernel_rfl) (by kernel_rfl)
def ti5 : TI := ⟨.int .u8, 1, 1, [.int .u8 0]⟩
theorem tiok5 : TIOk Tryd.prog 5 ti5 := TIOk.of (Tryd.underlying5) (by kernel_rfl) (by kernel_rfl) (by kernel_rfl) (by kernel_rfl) (by kernel_rfl) (by kernel_rfl)
def ti6 : TI := ⟨.int .u8, 1, 1, [.int .u8 0]⟩
theorem tiok6 : TIOk Tryd.prog 6 ti6 := TIOk.of (Tryd.underlying6) (by kernel_rfl) (by kernel_rfl) (by kernel_rfl) (by kernel_rfl) (by kernel_rfl) (by kernel_rfl)
def ti7 : TI := ⟨.struct [(0, 2), (1, 3), (2, 4), (3, 6)], 4, 24, [.int .i64 0, .int .i64 0, .bool false, .int .u8 0]⟩
theorem tiok7 : TIOk Tryd.prog 7 ti7 := TIOk.of ⟨_, Tryd.underlying7, rfl⟩ (by kernel_rfl) (by kernel_rfl) (by kernel_rfl) (by kernel_rfl) (by kernel_rfl) (by kernel_rfl)
def ti8 : TI := ⟨.struct [(0, 2), (1, 3), (2, 4), (3, 6)], 4, 24, [.int .i64 0, .int .i64 0, .bool false, .int .u8 0]⟩
theorem tiok8 : TIOk Tryd.prog 8 ti8 := TIOk.of ⟨_, Tryd.underlying8, rfl⟩ (by kernel_rfl) (by kernel_rfl) (by kernel_rfl) (by kernel_rfl) (by kernel_rfl) (by kernel_rfl)
def ti9 : TI := ⟨.str, 1, 16, [.str []]⟩
theorem tiok9 : TIOk Tryd.prog 9 ti9 := TIOk.of (Tryd.underlying9) (by kernel_rfl) (by kernel_rfl) (by kernel_rfl) (by kernel_rfl) (by kernel_rfl) (by kernel_rfl)
def ti10 : TI := ⟨.str, 1, 16, [.str []]⟩
theorem tiok10 : TIOk Tryd.prog 10 ti10 := TIOk.of (Tryd.underlying10) (by kernel_rfl) (by kernel_rfl) (by kernel_rfl) (by kernel_rfl) (by kernel_rfl) (by kernel_rfl)
def ti11 : TI := ⟨.str, 1, 16, [.str []]⟩
theorem tiok11 : TIOk Tryd.prog 11 ti11 := TIOk.of (Tryd.underlying11) (by kernel_rfl) (by kernel_rfl) (by kernel_rfl) (by kernel_rfl) (by kernel_rfl) (by kernel_rfl)
def ti12 : TI := ⟨.int .u64, 1, 8, [.int .u64 0]⟩
theorem tiok12 : TIOk Tryd.prog 12 ti12 := TIOk.of (Tryd.underlying12) (by kernel_rfl) (by kernel_rfl) (by kernel_rfl) (by kernel_rfl) (by kernel_rfl) (by kernel_rfl)
def ti13 : TI := ⟨.struct [(0, 9), (1, 12)], 2, 24, [.str [], .int .u64 0]⟩
theorem tiok13 : TIOk Tryd.prog 13 ti13 := TIOk.of ⟨_, Tryd.underlying13, rfl⟩ (by kernel_rfl) (by kernel_rfl) (by kernel_rfl) (by kernel_rfl) (by kernel_rfl) (by kernel_rfl)
def ti14 : TI := ⟨.struct [(0, 9), (1, 12)], 2, 24, [.str [], .int .u64 0]⟩
theorem tiok14 : TIOk Tryd.prog 14 ti14 := TIOk.of ⟨_, Tryd.underlying14, rfl⟩ (by kernel_rfl) (by kernel_rfl) (by kernel_rfl) (by kernel_rfl) (by kernel_rfl) (by kernel_rfl)
def ti15 : TI := ⟨.ptr 128, 1, 8, [.nilp]⟩
theorem tiok15 : TIOk Tryd.prog 15 ti15 := TIOk.of (Tryd.underlying15) (by kernel_rfl) (by kernel_rfl) (by kernel_rfl) (by kernel_rfl) (by kernel_rfl) (by kernel_rfl)
def ti16 : TI := ⟨.ptr 131, 1, 8, [.nilp]⟩
theorem tiok16 : TIOk Tryd.prog 16 ti16 := TIOk.of (Tryd.underlying16) (by kernel_rfl) (by kernel_rfl) (by kernel_rfl) (by kernel_rfl) (by kernel_rfl) (by kernel_rfl)
def ti17 : TI := ⟨.ptr 138, 1, 8, [.nilp]⟩
theorem tiok17 : TIOk Tryd.prog 17 ti17 := TIOk.of (Tryd.underlying17) (by kernel_rfl) (by kernel_rfl) (by kernel_rfl) (by kernel_rfl) (by kernel_rfl) (by kernel_rfl)
def ti18 : TI := ⟨.struct [(0, 17)], 1, 8, [.nilp]⟩
theorem tiok18 : TIOk Tryd.prog 18 ti18 := TIOk.of ⟨_, Tryd.underlying18, rfl⟩ (by kernel_rfl) (by kernel_rfl) (by kernel_rfl) (by kernel_rfl) (by kernel_rfl) (by kernel_rfl)
def ti19 : TI := ⟨.struct [(0, 17)], 1, 8, [.nilp]⟩
theorem tiok19 : TIOk Tryd.prog 19 ti19 := TIOk.of ⟨_, Tryd.underlying19, rfl⟩ (by kernel_rfl) (by kernel_rfl) (by kernel_rfl) (by kernel_rfl) (by kernel_rfl) (by kernel_rfl)
def ti20 : TI := ⟨.iface, 1, 16, [.nili]⟩
theorem tiok20 : TIOk Tryd.prog 20 ti20 := TIOk.of ⟨_, Tryd.underlying20⟩ (by kernel_rfl) (by kernel_rfl) (by kernel_rfl) (by kernel_rfl) (by kernel_rfl) (by kernel_rfl)
def ti21 : TI := ⟨.int .i32, 1, 4, [.int .i32 0]⟩
theorem tiok21 : TIOk Tryd.prog 21 ti21 := TIOk.of (Tryd.underlying21) (by kernel_rfl) (by kernel_rfl) (by kernel_rfl) (by kernel_rfl) (by kernel_rfl) (by kernel_rfl)
def ti22 : TI := ⟨.slice 44, 1, 24, [.nil]⟩
theorem tiok22 : TIOk Tryd.prog 22 ti22 := TIOk.of (Tryd.underlying22) (by kernel_rfl) (by kernel_rfl) (by kernel_rfl) (by kernel_rfl) (by kernel_rfl) (by kernel_rfl)
def ti23 : TI := ⟨.struct [(0, 3), (1, 22)], 2, 32, [.int .i64 0, .nil]⟩
theorem tiok23 : TIOk Tryd.prog 23 ti23 := TIOk.of ⟨_, Tryd.underlying23, rfl⟩ (by kernel_rfl) (by kernel_rfl) (by kernel_rfl) (by kernel_rfl) (by kernel_rfl) (by kernel_rfl)
def ti24 : TI := ⟨.struct [(0, 3), (1, 22)], 2, 32, [.int .i64 0, .nil]⟩
theorem tiok24 : TIOk Tryd.prog 24 ti24 := TIOk.of ⟨_, Tryd.underlying24, rfl⟩ (by kernel_rfl) (by kernel_rfl) (by kernel_rfl) (by kernel_rfl) (by kernel_rfl) (by kernel_rfl)
def ti26 : TI := ⟨.int .i64, 1, 8, [.int .i64 0]⟩
theorem tiok26 : TIOk Tryd.prog 26 ti26 := TIOk.of (Tryd.underlying26) (by kernel_rfl) (by kernel_rfl) (by kernel_rfl) (by kernel_rfl) (by kernel_rfl) (by kernel_rfl)
def ti30 : TI := ⟨.slice 55, 1, 24, [.nil]⟩
theorem tiok30 : TIOk Tryd.prog 30 ti30 := TIOk.of (Tryd.underlying30) (by kernel_rfl) (by kernel_rfl) (by kernel_rfl) (by kernel_rfl) (by kernel_rfl) (by kernel_rfl)
def ti31 : TI := ⟨.struct [(0, 3), (1, 30)], 2, 32, [.int .i64 0, .nil]⟩
theorem tiok31 : TIOk Tryd.prog 31 ti31 := TIOk.of ⟨_, Tryd.underlying31, rfl⟩ (by kernel_rfl) (by kernel_rfl) (by kernel_rfl) (by kernel_rfl) (by kernel_rfl) (by kernel_rfl)
def ti32 : TI := ⟨.struct [(0, 3), (1, 30)], 2, 32, [.int .i64 0, .nil]⟩
theorem tiok32 : TIOk Tryd.prog 32 ti32 := TIOk.of ⟨_, Tryd.underlying32, rfl⟩ (by kernel_rfl) (by kernel_rfl) (by kernel_rfl) (by kernel_rfl) (by kernel_rfl) (by kernel_rfl)
def ti40 : TI := ⟨.int .u16, 1, 2, [.int .u16 0]⟩
theorem tiok40 : TIOk Tryd.prog 40 ti40 := TIOk.of (Tryd.underlying40) (by kernel_rfl) (by kernel_rfl) (by kernel_rfl) (by kernel_rfl) (by kernel_rfl) (by kernel_rfl)
def ti41 : TI := ⟨.slice 5, 1, 24, [.nil]⟩
theorem tiok41 : TIOk Tryd.prog 41 ti41 := TIOk.of (Tryd.underlying41) (by kernel_rfl) (by kernel_rfl) (by kernel_rfl) (by kernel_rfl) (by kernel_rfl) (by kernel_rfl)
def ti43 : TI := ⟨.struct [(0, 5), (1, 3), (2, 3)], 3, 24, [.int .u8 0, .int .i64 0, .int .i64 0]⟩
theorem tiok43 : TIOk Tryd.prog 43 ti43 := TIOk.of ⟨_, Tryd.underlying43, rfl⟩ (by kernel_rfl) (by kernel_rfl) (by kernel_rfl) (by kernel_rfl) (by kernel_rfl) (by kernel_rfl)
def ti44 : TI := ⟨.struct [(0, 5), (1, 3), (2, 3)], 3, 24, [.int .u8 0, .int .i64 0, .int .i64 0]⟩
theorem tiok44 : TIOk Tryd.prog 44 ti44 := TIOk.of ⟨_, Tryd.underlying44, rfl⟩ (by kernel_rfl) (by kernel_rfl) (by kernel_rfl) (by kernel_rfl) (by kernel_rfl) (by kernel_rfl)
def ti46 : TI := ⟨.ptr 48, 1, 8, [.nilp]⟩
theorem tiok46 : TIOk Tryd.prog 46 ti46 := TIOk.of (Tryd.underlying46) (by kernel_rfl) (by kernel_rfl) (by kernel_rfl) (by kernel_rfl) (by kernel_rfl) (by kernel_rfl)
def ti47 : TI := ⟨.struct [(0, 46), (1, 41)], 2, 32, [.nilp, .nil]⟩
theorem tiok47 : TIOk Tryd.prog 47 ti47 := TIOk.of ⟨_, Tryd.underlying47, rfl⟩ (by kernel_rfl) (by kernel_rfl) (by kernel_rfl) (by kernel_rfl) (by kernel_rfl) (by kernel_rfl)
def ti48 : TI := ⟨.struct [(0, 46), (1, 41)], 2, 32, [.nilp, .nil]⟩
theorem tiok48 : TIOk Tryd.prog 48 ti48 := TIOk.of ⟨_, Tryd.underlying48, rfl⟩ (by kernel_rfl) (by kernel_rfl) (by kernel_rfl) (by kernel_rfl) (by kernel_rfl) (by kernel_rfl)
def ti49 : TI := ⟨.iface, 1, 16, [.nili]⟩
theorem tiok49 : TIOk Tryd.prog 49 ti49 := TIOk.of ⟨_, Tryd.underlying49⟩ (by kernel_rfl) (by kernel_rfl) (by kernel_rfl) (by kernel_rfl) (by kernel_rfl) (by kernel_rfl)
def ti50 : TI := ⟨.iface, 1, 16, [.nili]⟩
theorem tiok50 : TIOk Tryd.prog 50 ti50 := TIOk.of ⟨_, Tryd.underlying50⟩ (by kernel_rfl) (by kernel_rfl) (by kernel_rfl) (by kernel_rfl) (by kernel_rfl) (by kernel_rfl)
def ti55 : TI := ⟨.struct [(0, 5), (1, 3), (2, 3)], 3, 24, [.int .u8 0, .int .i64 0, .int .i64 0]⟩
theorem tiok55 : TIOk Tryd.prog 55 ti55 := TIOk.of ⟨_, Tryd.underlying55, rfl⟩ (by kernel_rfl) (by kernel_rfl) (by kernel_rfl) (by kernel_rfl) (by kernel_rfl) (by kernel_rfl)
def ti58 : TI := ⟨.slice 9, 1, 24, [.nil]⟩
theorem tiok58 : TIOk Tryd.prog 58 ti58 := TIOk.of (Tryd.underlying58) (by kernel_rfl) (by kernel_rfl) (by kernel_rfl) (by kernel_rfl) (by kernel_rfl) (by kernel_rfl)
def ti63 : TI := ⟨.ptr 5, 1, 8, [.nilp]⟩
theorem tiok63 : TIOk Tryd.prog 63 ti63 := TIOk.of (Tryd.underlying63) (by kernel_rfl) (by kernel_rfl) (by kernel_rfl) (by kernel_rfl) (by kernel_rfl) (by kernel_rfl)
def ti70 : TI := ⟨.int .u64, 1, 8, [.int .u64 0]⟩
theorem tiok70 : TIOk Tryd.prog 70 ti70 := TIOk.of (Tryd.underlying70) (by kernel_rfl) (by kernel_rfl) (by kernel_rfl) (by kernel_rfl) (by kernel_rfl) (by kernel_rfl)
def ti76 : TI := ⟨.slice 3, 1, 24, [.nil]⟩
theorem tiok76 : TIOk Tryd.prog 76 ti76 := TIOk.of (Tryd.underlying76) (by kernel_rfl) (by kernel_rfl) (by kernel_rfl) (by kernel_rfl) (by kernel_rfl) (by kernel_rfl)
def ti83 : TI := ⟨.int .u32, 1, 4, [.int .u32 0]⟩
theorem tiok83 : TIOk Tryd.prog 83 ti83 := TIOk.of (Tryd.underlying83) (by kernel_rfl) (by kernel_rfl) (by kernel_rfl) (by kernel_rfl) (by kernel_rfl) (by kernel_rfl)
def ti86 : TI := ⟨.int .u64, 1, 8, [.int .u64 0]⟩
theorem tiok86 : TIOk Tryd.prog 86 ti86 := TIOk.of (Tryd.underlying86) (by kernel_rfl) (by kernel_rfl) (by kernel_rfl) (by kernel_rfl) (by kernel_rfl) (by kernel_rfl)
def ti92 : TI := ⟨.int .i64, 1, 8, [.int .i64 0]⟩
theorem tiok92 : TIOk Tryd.prog 92 ti92 := TIOk.of (Tryd.underlying92) (by kernel_rfl) (by kernel_rfl) (by kernel_rfl) (by kernel_rfl) (by kernel_rfl) (by kernel_rfl)
def ti95 : TI := ⟨.ptr 109, 1, 8, [.nilp]⟩
theorem tiok95 : TIOk Tryd.prog 95 ti95 := TIOk.of (Tryd.underlying95) (by kernel_rfl) (by kernel_rfl) (by kernel_rfl) (by kernel_rfl) (by kernel_rfl) (by kernel_rfl)
def ti98 : TI := ⟨.array 24 5, 24, 24, [.int .u8 0, .int .u8 0, .int .u8 0, .int .u8 0, .int .u8 0, .int .u8 0, .int .u8 0, .int .u8 0, .int .u8 0, .int .u8 0, .int .u8 0, .int .u8 0, .int .u8 0, .int .u8 0, .int .u8 0, .int .u8 0, .int .u8 0, .int .u8 0, .int .u8 0, .int .u8 0, .int .u8 0, .int .u8 0, .int .u8 0, .int .u8 0]⟩
theorem tiok98 : TIOk Tryd.prog 98 ti98 := TIOk.of (Tryd.underlying98) (by kernel_rfl) (by kernel_rfl) (by kernel_rfl) (by kernel_rfl) (by kernel_rfl) (by kernel_rfl)
def ti108 : TI := ⟨.struct [(0, 9), (1, 9), (2, 50)], 3, 48, [.str [], .str [], .nili]⟩
theorem tiok108 : TIOk Tryd.prog 108 ti108 := TIOk.of ⟨_, Tryd.underlying108, rfl⟩ (by kernel_rfl) (by kernel_rfl) (by kernel_rfl) (by kernel_rfl) (by kernel_rfl) (by kernel_rfl)
def ti109 : TI := ⟨.struct [(0, 9), (1, 9), (2, 50)], 3, 48, [.str [], .str [], .nili]⟩
theorem tiok109 : TIOk Tryd.prog 109 ti109 := TIOk.of ⟨_, Tryd.underlying109, rfl⟩ (by kernel_rfl) (by kernel_rfl) (by kernel_rfl) (by kernel_rfl) (by kernel_rfl) (by kernel_rfl)
def ti112 : TI := ⟨.array 20 86, 20, 160, [.int .u64 0, .int .u64 0, .int .u64 0, .int .u64 0, .int .u64 0, .int .u64 0, .int .u64 0, .int .u64 0, .int .u64 0, .int .u64 0, .int .u64 0, .int .u64 0, .int .u64 0, .int .u64 0, .int .u64 0, .int .u64 0, .int .u64 0, .int .u64 0, .int .u64 0, .int .u64 0]⟩
theorem tiok112 : TIOk Tryd.prog 112 ti112 := TIOk.of (Tryd.underlying112) (by kernel_rfl) (by kernel_rfl) (by kernel_rfl) (by kernel_rfl) (by kernel_rfl) (by kernel_rfl)
def ti113 : TI := ⟨.array 65 5, 65, 65, List.replicate 65 (.int .u8 0)⟩
theorem tiok113 : TIOk Tryd.prog 113 ti113 := TIOk.of (Tryd.underlying113) (by kernel_rfl) (by kernel_rfl) (by kernel_rfl) (by kernel_rfl) (by kernel_rfl) (by kernel_rfl)
def ti115 : TI := ⟨.array 256 5, 256, 256, List.replicate 256 (.int .u8 0)⟩
theorem tiok115 : TIOk Tryd.prog 115 ti115 := TIOk.of (Tryd.underlying115) (by kernel_rfl) (by kernel_rfl) (by kernel_rfl) (by kernel_rfl) (by kernel_rfl) (by kernel_rfl)
def ti116 : TI := ⟨.struct [(0, 5), (1, 5)], 2, 2, [.int .u8 0, .int .u8 0]⟩
theorem tiok116 : TIOk Tryd.prog 116 ti116 := TIOk.of ⟨_, Tryd.underlying116, rfl⟩ (by kernel_rfl) (by kernel_rfl) (by kernel_rfl) (by kernel_rfl) (by kernel_rfl) (by kernel_rfl)
def ti117 : TI := ⟨.struct [(0, 5), (1, 5)], 2, 2, [.int .u8 0, .int .u8 0]⟩
theorem tiok117 : TIOk Tryd.prog 117 ti117 := TIOk.of ⟨_, Tryd.underlying117, rfl⟩ (by kernel_rfl) (by kernel_rfl) (by kernel_rfl) (by kernel_rfl) (by kernel_rfl) (by kernel_rfl)
def ti118 : TI := ⟨.array 16 117, 32, 32, [.int .u8 0, .int .u8 0, .int .u8 0, .int .u8 0, .int .u8 0, .int .u8 0, .int .u8 0, .int .u8 0, .int .u8 0, .int .u8 0, .int .u8 0, .int .u8 0, .int .u8 0, .int .u8 0, .int .u8 0, .int .u8 0, .int .u8 0, .int .u8 0, .int .u8 0, .int .u8 0, .int .u8 0, .int .u8 0, .int .u8 0, .int .u8 0, .int .u8 0, .int .u8 0, .int .u8 0, .int .u8 0, .int .u8 0, .int .u8 0, .int .u8 0, .int .u8 0]⟩
theorem tiok118 : TIOk Tryd.prog 118 ti118 := TIOk.of (Tryd.underlying118) (by kernel_rfl) (by kernel_rfl) (by kernel_rfl) (by kernel_rfl) (by kernel_rfl) (by kernel_rfl)
def ti121 : TI := ⟨.ptr 123, 1, 8, [.nilp]⟩
theorem tiok121 : TIOk Tryd.prog 121 ti121 := TIOk.of (Tryd.underlying121) (by kernel_rfl) (by kernel_rfl) (by kernel_rfl) (by kernel_rfl) (by kernel_rfl) (by kernel_rfl)
def ti122 : TI := ⟨.struct [(0, 9)], 1, 16, [.str []]⟩
theorem tiok122 : TIOk Tryd.prog 122 ti122 := TIOk.of ⟨_, Tryd.underlying122, rfl⟩ (by kernel_rfl) (by kernel_rfl) (by kernel_rfl) (by kernel_rfl) (by kernel_rfl) (by kernel_rfl)
def ti123 : TI := ⟨.struct [(0, 9)], 1, 16, [.str []]⟩
theorem tiok123 : TIOk Tryd.prog 123 ti123 := TIOk.of ⟨_, Tryd.underlying123, rfl⟩ (by kernel_rfl) (by kernel_rfl) (by kernel_rfl) (by kernel_rfl) (by kernel_rfl) (by kernel_rfl)
def ti125 : TI := ⟨.array 32 5, 32, 32, [.int .u8 0, .int .u8 0, .int .u8 0, .int .u8 0, .int .u8 0, .int .u8 0, .int .u8 0, .int .u8 0, .int .u8 0, .int .u8 0, .int .u8 0, .int .u8 0, .int .u8 0, .int .u8 0, .int .u8 0, .int .u8 0, .int .u8 0, .int .u8 0, .int .u8 0, .int .u8 0, .int .u8 0, .int .u8 0, .int .u8 0, .int .u8 0, .int .u8 0, .int .u8 0, .int .u8 0, .int .u8 0, .int .u8 0, .int .u8 0, .int .u8 0, .int .u8 0]⟩
theorem tiok125 : TIOk Tryd.prog 125 ti125 := TIOk.of (Tryd.underlying125) (by kernel_rfl) (by kernel_rfl) (by kernel_rfl) (by kernel_rfl) (by kernel_rfl) (by kernel_rfl)
def ti126 : TI := ⟨.array 64 5, 64, 64, [.int .u8 0, .int .u8 0, .int .u8 0, .int .u8 0, .int .u8 0, .int .u8 0, .int .u8 0, .int .u8 0, .int .u8 0, .int .u8 0, .int .u8 0, .int .u8 0, .int .u8 0, .int .u8 0, .int .u8 0, .int .u8 0, .int .u8 0, .int .u8 0, .int .u8 0, .int .u8 0, .int .u8 0, .int .u8 0, .int .u8 0, .int .u8 0, .int .u8 0, .int .u8 0, .int .u8 0, .int .u8 0, .int .u8 0, .int .u8 0, .int .u8 0, .int .u8 0, .int .u8 0, .int .u8 0, .int .u8 0, .int .u8 0, .int .u8 0, .int .u8 0, .int .u8 0, .int .u8 0, .int .u8 0, .int .u8 0, .int .u8 0, .int .u8 0, .int .u8 0, .int .u8 0, .int .u8 0, .int .u8 0, .int .u8 0, .int .u8 0, .int .u8 0, .int .u8 0, .int .u8 0, .int .u8 0, .int .u8 0, .int .u8 0, .int .u8 0, .int .u8 0, .int .u8 0, .int .u8 0, .int .u8 0, .int .u8 0, .int .u8 0, .int .u8 0]⟩
theorem tiok126 : TIOk Tryd.prog 126 ti126 := TIOk.of (Tryd.underlying126) (by kernel_rfl) (by kernel_rfl) (by kernel_rfl) (by kernel_rfl) (by kernel_rfl) (by kernel_rfl)
def ti127 : TI := ⟨.struct [(0, 17), (1, 17), (2, 17), (3, 9)], 4, 40, [.nilp, .nilp, .nilp, .str []]⟩
theorem tiok127 : TIOk Tryd.prog 127 ti127 := TIOk.of ⟨_, Tryd.underlying127, rfl⟩ (by kernel_rfl) (by kernel_rfl) (by kernel_rfl) (by kernel_rfl) (by kernel_rfl) (by kernel_rfl)
def ti128 : TI := ⟨.struct [(0, 17), (1, 17), (2, 17), (3, 9)], 4, 40, [.nilp, .nilp, .nilp, .str []]⟩
theorem tiok128 : TIOk Tryd.prog 128 ti128 := TIOk.of ⟨_, Tryd.underlying128, rfl⟩ (by kernel_rfl) (by kernel_rfl) (by kernel_rfl) (by kernel_rfl) (by kernel_rfl) (by kernel_rfl)
def ti129 : TI := ⟨.array 0 16, 0, 0, []⟩
theorem tiok129 : TIOk Tryd.prog 129 ti129 := TIOk.of (Tryd.underlying129) (by kernel_rfl) (by kernel_rfl) (by kernel_rfl) (by kernel_rfl) (by kernel_rfl) (by kernel_rfl)
def ti130 : TI := ⟨.struct [(0, 129)], 0, 0, []⟩
theorem tiok130 : TIOk Tryd.prog 130 ti130 := TIOk.of ⟨_, Tryd.underlying130, rfl⟩ (by kernel_rfl) (by kernel_rfl) (by kernel_rfl) (by kernel_rfl) (by kernel_rfl) (by kernel_rfl)
def ti131 : TI := ⟨.struct [(0, 129)], 0, 0, []⟩
theorem tiok131 : TIOk Tryd.prog 131 ti131 := TIOk.of ⟨_, Tryd.underlying131, rfl⟩ (by kernel_rfl) (by kernel_rfl) (by kernel_rfl) (by kernel_rfl) (by kernel_rfl) (by kernel_rfl)
def ti132 : TI := ⟨.int .u8, 1, 1, [.int .u8 0]⟩
theorem tiok132 : TIOk Tryd.prog 132 ti132 := TIOk.of (Tryd.underlying132) (by kernel_rfl) (by kernel_rfl) (by kernel_rfl) (by kernel_rfl) (by kernel_rfl) (by kernel_rfl)
def ti133 : TI := ⟨.int .u8, 1, 1, [.int .u8 0]⟩
theorem tiok133 : TIOk Tryd.prog 133 ti133 := TIOk.of (Tryd.underlying133) (by kernel_rfl) (by kernel_rfl) (by kernel_rfl) (by kernel_rfl) (by kernel_rfl) (by kernel_rfl)
def ti135 : TI := ⟨.int .i32, 1, 4, [.int .i32 0]⟩
theorem tiok135 : TIOk Tryd.prog 135 ti135 := TIOk.of (Tryd.underlying135) (by kernel_rfl) (by kernel_rfl) (by kernel_rfl) (by kernel_rfl) (by kernel_rfl) (by kernel_rfl)
def ti136 : TI := ⟨.int .i32, 1, 4, [.int .i32 0]⟩
theorem tiok136 : TIOk Tryd.prog 136 ti136 := TIOk.of (Tryd.underlying136) (by kernel_rfl) (by kernel_rfl) (by kernel_rfl) (by kernel_rfl) (by kernel_rfl) (by kernel_rfl)
def tabL : List (Nat × TI) := [(2, ti2), (3, ti3), (4, ti4), (5, ti5), (6, ti6), (7, ti7), (8, ti8), (9, ti9), (10, ti10), (11, ti11), (12, ti12), (13, ti13), (14, ti14), (15, ti15), (16, ti16), (17, ti17), (18, ti18), (19, ti19), (20, ti20), (21, ti21), (22, ti22), (23, ti23), (24, ti24), (26, ti26), (30, ti30), (31, ti31), (32, ti32), (40, ti40), (41, ti41), (43, ti43), (44, ti44), (46, ti46), (47, ti47), (48, ti48), (49, ti49), (50, ti50), (55, ti55), (58, ti58), (63, ti63), (70, ti70), (76, ti76), (83, ti83), (86, ti86), (92, ti92), (95, ti95), (98, ti98), (108, ti108), (109, ti109), (112, ti112), (113, ti113), (115, ti115), (116, ti116), (117, ti117), (118, ti118), (121, ti121), (122, ti122), (123, ti123), (125, ti125), (126, ti126), (127, ti127), (128, ti128), (129, ti129), (130, ti130), (131, ti131), (132, ti132), (133, ti133), (135, ti135), (136, ti136)]
def tab (t : Nat) : Option TI := lookT tabL t
theorem tabOk : TabOk Tryd.prog tab := fun _ _ h => allT (show AllT Tryd.prog tabL from ⟨tiok2, tiok3, tiok4, tiok5, tiok6, tiok7, tiok8, tiok9, tiok10, tiok11, tiok12, tiok13, tiok14, tiok15, tiok16, tiok17, tiok18, tiok19, tiok20, tiok21, tiok22, tiok23, tiok24, tiok26, tiok30, tiok31, tiok32, tiok40, tiok41, tiok43, tiok44, tiok46, tiok47, tiok48, tiok49, tiok50, tiok55, tiok58, tiok63, tiok70, tiok76, tiok83, tiok86, tiok92, tiok95, tiok98, tiok108, tiok109, tiok112, tiok113, tiok115, tiok116, tiok117, tiok118, tiok121, tiok122, tiok123, tiok125, tiok126, tiok127, tiok128, tiok129, tiok130, tiok131, tiok132, tiok133, tiok135, tiok136, trivial⟩) h
@[simp] theorem tab_2 : tab 2 = some ⟨.int .i64, 1, 8, [.int .i64 0]⟩ := rfl
@[simp] theorem tab_3 : tab 3 = some ⟨.int .i64, 1, 8, [.int .i64 0]⟩ := rfl
@[simp] theorem tab_4 : tab 4 = some ⟨.bool, 1, 1, [.bool false]⟩ := rfl
@[simp] theorem tab_5 : tab 5 = some ⟨.int .u8, 1, 1, [.int .u8 0]⟩ := rfl
@[simp] theorem tab_6 : tab 6 = some ⟨.int .u8, 1, 1, [.int .u8 0]⟩ := rfl
@[simp] theorem tab_7 : tab 7 = some ⟨.struct [(0, 2), (1, 3), (2, 4), (3, 6)], 4, 24, [.int .i64 0, .int .i64 0, .bool false, .int .u8 0]⟩ := rfl
@[simp] theorem tab_8 : tab 8 = some ⟨.struct [(0, 2), (1, 3), (2, 4), (3, 6)], 4, 24, [.int .i64 0, .int .i64 0, .bool false, .int .u8 0]⟩ := rfl
@[simp] theorem tab_9 : tab 9 = some ⟨.str, 1, 16, [.str []]⟩ := rfl
@[simp] theorem tab_10 : tab 10 = some ⟨.str, 1, 16, [.str []]⟩ := rfl
@[simp] theorem tab_11 : tab 11 = some ⟨.str, 1, 16, [.str []]⟩ := rfl
@[simp] theorem tab_12 : tab 12 = some ⟨.int .u64, 1, 8, [.int .u64 0]⟩ := rfl
@[simp] theorem tab_13 : tab 13 = some ⟨.struct [(0, 9), (1, 12)], 2, 24, [.str [], .int .u64 0]⟩ := rfl
@[simp] theorem tab_14 : tab 14 = some ⟨.struct [(0, 9), (1, 12)], 2, 24, [.str [], .int .u64 0]⟩ := rfl
@[simp] theorem tab_15 : tab 15 = some ⟨.ptr 128, 1, 8, [.nilp]⟩ := rfl
@[simp] theorem tab_16 : tab 16 = some ⟨.ptr 131, 1, 8, [.nilp]⟩ := rfl
@[simp] theorem tab_17 : tab 17 = some ⟨.ptr 138, 1, 8, [.nilp]⟩ := rfl
@[simp] theorem tab_18 : tab 18 = some ⟨.struct [(0, 17)], 1, 8, [.nilp]⟩ := rfl
@[simp] theorem tab_19 : tab 19 = some ⟨.struct [(0, 17)], 1, 8, [.nilp]⟩ := rfl
@[simp] theorem tab_20 : tab 20 = some ⟨.iface, 1, 16, [.nili]⟩ := rfl
@[simp] theorem tab_21 : tab 21 = some ⟨.int .i32, 1, 4, [.int .i32 0]⟩ := rfl
@[simp] theorem tab_22 : tab 22 = some ⟨.slice 44, 1, 24, [.nil]⟩ := rfl
@[simp] theorem tab_23 : tab 23 = some ⟨.struct [(0, 3), (1, 22)], 2, 32, [.int .i64 0, .nil]⟩ := rfl
@[simp] theorem tab_24 : tab 24 = some ⟨.struct [(0, 3), (1, 22)], 2, 32, [.int .i64 0, .nil]⟩ := rfl
@[simp] theorem tab_26 : tab 26 = some ⟨.int .i64, 1, 8, [.int .i64 0]⟩ := rfl
@[simp] theorem tab_30 : tab 30 = some ⟨.slice 55, 1, 24, [.nil]⟩ := rfl
@[simp] theorem tab_31 : tab 31 = some ⟨.struct [(0, 3), (1, 30)], 2, 32, [.int .i64 0, .nil]⟩ := rfl
@[simp] theorem tab_32 : tab 32 = some ⟨.struct [(0, 3), (1, 30)], 2, 32, [.int .i64 0, .nil]⟩ := rfl
@[simp] theorem tab_40 : tab 40 = some ⟨.int .u16, 1, 2, [.int .u16 0]⟩ := rfl
@[simp] theorem tab_41 : tab 41 = some ⟨.slice 5, 1, 24, [.nil]⟩ := rfl
@[simp] theorem tab_43 : tab 43 = some ⟨.struct [(0, 5), (1, 3), (2, 3)], 3, 24, [.int .u8 0, .int .i64 0, .int .i64 0]⟩ := rfl
@[simp] theorem tab_44 : tab 44 = some ⟨.struct [(0, 5), (1, 3), (2, 3)], 3, 24, [.int .u8 0, .int .i64 0, .int .i64 0]⟩ := rfl
@[simp] theorem tab_46 : tab 46 = some ⟨.ptr 48, 1, 8, [.nilp]⟩ := rfl
@[simp] theorem tab_47 : tab 47 = some ⟨.struct [(0, 46), (1, 41)], 2, 32, [.nilp, .nil]⟩ := rfl
@[simp] theorem tab_48 : tab 48 = some ⟨.struct [(0, 46), (1, 41)], 2, 32, [.nilp, .nil]⟩ := rfl
@[simp] theorem tab_49 : tab 49 = some ⟨.iface, 1, 16, [.nili]⟩ := rfl
@[simp] theorem tab_50 : tab 50 = some ⟨.iface, 1, 16, [.nili]⟩ := rfl
@[simp] theorem tab_55 : tab 55 = some ⟨.struct [(0, 5), (1, 3), (2, 3)], 3, 24, [.int .u8 0, .int .i64 0, .int .i64 0]⟩ := rfl
@[simp] theorem tab_58 : tab 58 = some ⟨.slice 9, 1, 24, [.nil]⟩ := rfl
@[simp] theorem tab_63 : tab 63 = some ⟨.ptr 5, 1, 8, [.nilp]⟩ := rfl
@[simp] theorem tab_70 : tab 70 = some ⟨.int .u64, 1, 8, [.int .u64 0]⟩ := rfl
@[simp] theorem tab_76 : tab 76 = some ⟨.slice 3, 1, 24, [.nil]⟩ := rfl
@[simp] theorem tab_83 : tab 83 = some ⟨.int .u32, 1, 4, [.int .u32 0]⟩ := rfl
@[simp] theorem tab_86 : tab 86 = some ⟨.int .u64, 1, 8, [.int .u64 0]⟩ := rfl
@[simp] theorem tab_92 : tab 92 = some ⟨.int .i64, 1, 8, [.int .i64 0]⟩ := rfl
@[simp] theorem tab_95 : tab 95 = some ⟨.ptr 109, 1, 8, [.nilp]⟩ := rfl
@[simp] theorem tab_98 : tab 98 = some ⟨.array 24 5, 24, 24, [.int .u8 0, .int .u8 0, .int .u8 0, .int .u8 0, .int .u8 0, .int .u8 0, .int .u8 0, .int .u8 0, .int .u8 0, .int .u8 0, .int .u8 0, .int .u8 0, .int .u8 0, .int .u8 0, .int .u8 0, .int .u8 0, .int .u8 0, .int .u8 0, .int .u8 0, .int .u8 0, .int .u8 0, .int .u8 0, .int .u8 0, .int .u8 0]⟩ := rfl
@[simp] theorem tab_108 : tab 108 = some ⟨.struct [(0, 9), (1, 9), (2, 50)], 3, 48, [.str [], .str [], .nili]⟩ := rfl
@[simp] theorem tab_109 : tab 109 = some ⟨.struct [(0, 9), (1, 9), (2, 50)], 3, 48, [.str [], .str [], .nili]⟩ := rfl
@[simp] theorem tab_112 : tab 112 = some ⟨.array 20 86, 20, 160, [.int .u64 0, .int .u64 0, .int .u64 0, .int .u64 0, .int .u64 0, .int .u64 0, .int .u64 0, .int .u64 0, .int .u64 0, .int .u64 0, .int .u64 0, .int .u64 0, .int .u64 0, .int .u64 0, .int .u64 0, .int .u64 0, .int .u64 0, .int .u64 0, .int .u64 0, .int .u64 0]⟩ := rfl
@[simp] theorem tab_113 : tab 113 = some ⟨.array 65 5, 65, 65, List.replicate 65 (.int .u8 0)⟩ := rfl
@[simp] theorem tab_115 : tab 115 = some ⟨.array 256 5, 256, 256, List.replicate 256 (.int .u8 0)⟩ := rfl
@[simp] theorem tab_116 : tab 116 = some ⟨.struct [(0, 5), (1, 5)], 2, 2, [.int .u8 0, .int .u8 0]⟩ := rfl
@[simp] theorem tab_117 : tab 117 = some ⟨.struct [(0, 5), (1, 5)], 2, 2, [.int .u8 0, .int .u8 0]⟩ := rfl
@[simp] theorem tab_118 : tab 118 = some ⟨.array 16 117, 32, 32, [.int .u8 0, .int .u8 0, .int .u8 0, .int .u8 0, .int .u8 0, .int .u8 0, .int .u8 0, .int .u8 0, .int .u8 0, .int .u8 0, .int .u8 0, .int .u8 0, .int .u8 0, .int .u8 0, .int .u8 0, .int .u8 0, .int .u8 0, .int .u8 0, .int .u8 0, .int .u8 0, .int .u8 0, .int .u8 0, .int .u8 0, .int .u8 0, .int .u8 0, .int .u8 0, .int .u8 0, .int .u8 0, .int .u8 0, .int .u8 0, .int .u8 0, .int .u8 0]⟩ := rfl
@[simp] theorem tab_121 : tab 121 = some ⟨.ptr 123, 1, 8, [.nilp]⟩ := rfl
@[simp] theorem tab_122 : tab 122 = some ⟨.struct [(0, 9)], 1, 16, [.str []]⟩ := rfl
@[simp] theorem tab_123 : tab 123 = some ⟨.struct [(0, 9)], 1, 16, [.str []]⟩ := rfl
@[simp] theorem tab_125 : tab 125 = some ⟨.array 32 5, 32, 32, [.int .u8 0, .int .u8 0, .int .u8 0, .int .u8 0, .int .u8 0, .int .u8 0, .int .u8 0, .int .u8 0, .int .u8 0, .int .u8 0, .int .u8 0, .int .u8 0, .int .u8 0, .int .u8 0, .int .u8 0, .int .u8 0, .int .u8 0, .int .u8 0, .int .u8 0, .int .u8 0, .int .u8 0, .int .u8 0, .int .u8 0, .int .u8 0, .int .u8 0, .int .u8 0, .int .u8 0, .int .u8 0, .int .u8 0, .int .u8 0, .int .u8 0, .int .u8 0]⟩ := rfl
@[simp] theorem tab_126 : tab 126 = some ⟨.array 64 5, 64, 64, [.int .u8 0, .int .u8 0, .int .u8 0, .int .u8 0, .int .u8 0, .int .u8 0, .int .u8 0, .int .u8 0, .int .u8 0, .int .u8 0, .int .u8 0, .int .u8 0, .int .u8 0, .int .u8 0, .int .u8 0, .int .u8 0, .int .u8 0, .int .u8 0, .int .u8 0, .int .u8 0, .int .u8 0, .int .u8 0, .int .u8 0, .int .u8 0, .int .u8 0, .int .u8 0, .int .u8 0, .int .u8 0, .int .u8 0, .int .u8 0, .int .u8 0, .int .u8 0, .int .u8 0, .int .u8 0, .int .u8 0, .int .u8 0, .int .u8 0, .int .u8 0, .int .u8 0, .int .u8 0, .int .u8 0, .int .u8 0, .int .u8 0, .int .u8 0, .int .u8 0, .int .u8 0, .int .u8 0, .int .u8 0, .int .u8 0, .int .u8 0, .int .u8 0, .int .u8 0, .int .u8 0, .int .u8 0, .int .u8 0, .int .u8 0, .int .u8 0, .int .u8 0, .int .u8 0, .int .u8 0, .int .u8 0, .int .u8 0, .int .u8 0, .int .u8 0]⟩ := rfl
@[simp] theorem tab_127 : tab 127 = some ⟨.struct [(0, 17), (1, 17), (2, 17), (3, 9)], 4, 40, [.nilp, .nilp, .nilp, .str []]⟩ := rfl
@[simp] theorem tab_128 : tab 128 = some ⟨.struct [(0, 17), (1, 17), (2, 17), (3, 9)], 4, 40, [.nilp, .nilp, .nilp, .str []]⟩ := rfl
@[simp] theorem tab_129 : tab 129 = some ⟨.array 0 16, 0, 0, []⟩ := rfl
@[simp] theorem tab_130 : tab 130 = some ⟨.struct [(0, 129)], 0, 0, []⟩ := rfl
@[simp] theorem tab_131 : tab 131 = some ⟨.struct [(0, 129)], 0, 0, []⟩ := rfl
@[simp] theorem tab_132 : tab 132 = some ⟨.int .u8, 1, 1, [.int .u8 0]⟩ := rfl
@[simp] theorem tab_133 : tab 133 = some ⟨.int .u8, 1, 1, [.int .u8 0]⟩ := rfl
@[simp] theorem tab_135 : tab 135 = some ⟨.int .i32, 1, 4, [.int .i32 0]⟩ := rfl
@[simp] theorem tab_136 : tab 136 = some ⟨.int .i32, 1, 4, [.int .i32 0]⟩ := rfl
theorem call_3 : Callable Tryd.prog 3 := ⟨⟨_, Tryd.func3, by kernel_rfl, by kernel_rfl⟩⟩
theorem call_4 : Callable Tryd.prog 4 := ⟨⟨_, Tryd.func4, by kernel_rfl, by kernel_rfl⟩⟩
theorem call_5 : Callable Tryd.prog 5 := ⟨⟨_, Tryd.func5, by kernel_rfl, by kernel_rfl⟩⟩
theorem call_6 : Callable Tryd.prog 6 := ⟨⟨_, Tryd.func6, by kernel_rfl, by kernel_rfl⟩⟩
theorem call_7 : Callable Tryd.prog 7 := ⟨⟨_, Tryd.func7, by kernel_rfl, by kernel_rfl⟩⟩
theorem call_8 : Callable Tryd.prog 8 := ⟨⟨_, Tryd.func8, by kernel_rfl, by kernel_rfl⟩⟩
theorem call_9 : Callable Tryd.prog 9 := ⟨⟨_, Tryd.func9, by kernel_rfl, by kernel_rfl⟩⟩
theorem call_10 : Callable Tryd.prog 10 := ⟨⟨_, Tryd.func10, by kernel_rfl, by kernel_rfl⟩⟩
theorem call_11 : Callable Tryd.prog 11 := ⟨⟨_, Tryd.func11, by kernel_rfl, by kernel_rfl⟩⟩
theorem call_12 : Callable Tryd.prog 12 := ⟨⟨_, Tryd.func12, by kernel_rfl, by kernel_rfl⟩⟩
theorem call_13 : Callable Tryd.prog 13 := ⟨⟨_, Tryd.func13, by kernel_rfl, by kernel_rfl⟩⟩
theorem call_14 : Callable Tryd.prog 14 := ⟨⟨_, Tryd.func14, by kernel_rfl, by kernel_rfl⟩⟩
theorem call_15 : Callable Tryd.prog 15 := ⟨⟨_, Tryd.func15, by kernel_rfl, by kernel_rfl⟩⟩
theorem call_16 : Callable Tryd.prog 16 := ⟨⟨_, Tryd.func16, by kernel_rfl, by kernel_rfl⟩⟩
theorem call_17 : Callable Tryd.prog 17 := ⟨⟨_, Tryd.func17, by kernel_rfl, by kernel_rfl⟩⟩
theorem call_18 : Callable Tryd.prog 18 := ⟨⟨_, Tryd.func18, by kernel_rfl, by kernel_rfl⟩⟩
theorem call_19 : Callable Tryd.prog 19 := ⟨⟨_, Tryd.func19, by kernel_rfl, by kernel_rfl⟩⟩
theorem call_20 : Callable Tryd.prog 20 := ⟨⟨_, Tryd.func20, by kernel_rfl, by kernel_rfl⟩⟩
theorem call_21 : Callable Tryd.prog 21 := ⟨⟨_, Tryd.func21, by kernel_rfl, by kernel_rfl⟩⟩
theorem call_22 : Callable Tryd.prog 22 := ⟨⟨_, Tryd.func22, by kernel_rfl, by kernel_rfl⟩⟩
theorem call_23 : Callable Tryd.prog 23 := ⟨⟨_, Tryd.func23, by kernel_rfl, by kernel_rfl⟩⟩
theorem call_24 : Callable Tryd.prog 24 := ⟨⟨_, Tryd.func24, by kernel_rfl, by kernel_rfl⟩⟩
theorem call_25 : Callable Tryd.prog 25 := ⟨⟨_, Tryd.func25, by kernel_rfl, by kernel_rfl⟩⟩
theorem call_26 : Callable Tryd.prog 26 := ⟨⟨_, Tryd.func26, by kernel_rfl, by kernel_rfl⟩⟩
theorem call_27 : Callable Tryd.prog 27 := ⟨⟨_, Tryd.func27, by kernel_rfl, by kernel_rfl⟩⟩
theorem call_28 : Callable Tryd.prog 28 := ⟨⟨_, Tryd.func28, by kernel_rfl, by kernel_rfl⟩⟩
theorem call_29 : Callable Tryd.prog 29 := ⟨⟨_, Tryd.func29, by kernel_rfl, by kernel_rfl⟩⟩
theorem call_30 : Callable Tryd.prog 30 := ⟨⟨_, Tryd.func30, by kernel_rfl, by kernel_rfl⟩⟩
theorem call_31 : Callable Tryd.prog 31 := ⟨⟨_, Tryd.func31, by kernel_rfl, by kernel_rfl⟩⟩
theorem call_32 : Callable Tryd.prog 32 := ⟨⟨_, Tryd.func32, by kernel_rfl, by kernel_rfl⟩⟩
theorem call_34 : Callable Tryd.prog 34 := ⟨⟨_, Tryd.func34, by kernel_rfl, by kernel_rfl⟩⟩
theorem call_35 : Callable Tryd.prog 35 := ⟨⟨_, Tryd.func35, by kernel_rfl, by kernel_rfl⟩⟩
theorem call_36 : Callable Tryd.prog 36 := ⟨⟨_, Tryd.func36, by kernel_rfl, by kernel_rfl⟩⟩
theorem call_37 : Callable Tryd.prog 37 := ⟨⟨_, Tryd.func37, by kernel_rfl, by kernel_rfl⟩⟩
theorem call_38 : Callable Tryd.prog 38 := ⟨⟨_, Tryd.func38, by kernel_rfl, by kernel_rfl⟩⟩
theorem call_39 : Callable Tryd.prog 39 := ⟨⟨_, Tryd.func39, by kernel_rfl, by kernel_rfl⟩⟩
theorem call_40 : Callable Tryd.prog 40 := ⟨⟨_, Tryd.func40, by kernel_rfl, by kernel_rfl⟩⟩
theorem call_41 : Callable Tryd.prog 41 := ⟨⟨_, Tryd.func41, by kernel_rfl, by kernel_rfl⟩⟩
theorem call_42 : Callable Tryd.prog 42 := ⟨⟨_, Tryd.func42, by kernel_rfl, by kernel_rfl⟩⟩
theorem call_43 : Callable Tryd.prog 43 := ⟨⟨_, Tryd.func43, by kernel_rfl, by kernel_rfl⟩⟩
theorem call_44 : Callable Tryd.prog 44 := ⟨⟨_, Tryd.func44, by kernel_rfl, by kernel_rfl⟩⟩
theorem call_45 : Callable Tryd.prog 45 := ⟨⟨_, Tryd.func45, by kernel_rfl, by kernel_rfl⟩⟩
theorem call_46 : Callable Tryd.prog 46 := ⟨⟨_, Tryd.func46, by kernel_rfl, by kernel_rfl⟩⟩
theorem call_47 : Callable Tryd.prog 47 := ⟨⟨_, Tryd.func47, by kernel_rfl, by kernel_rfl⟩⟩
theorem call_48 : Callable Tryd.prog 48 := ⟨⟨_, Tryd.func48, by kernel_rfl, by kernel_rfl⟩⟩
theorem call_49 : Callable Tryd.prog 49 := ⟨⟨_, Tryd.func49, by kernel_rfl, by kernel_rfl⟩⟩
theorem call_50 : Callable Tryd.prog 50 := ⟨⟨_, Tryd.func50, by kernel_rfl, by kernel_rfl⟩⟩
theorem call_51 : Callable Tryd.prog 51 := ⟨⟨_, Tryd.func51, by kernel_rfl, by kernel_rfl⟩⟩
theorem call_52 : Callable Tryd.prog 52 := ⟨⟨_, Tryd.func52, by kernel_rfl, by kernel_rfl⟩⟩
theorem call_54 : Callable Tryd.prog 54 := ⟨⟨_, Tryd.func54, by kernel_rfl, by kernel_rfl⟩⟩
theorem call_55 : Callable Tryd.prog 55 := ⟨⟨_, Tryd.func55, by kernel_rfl, by kernel_rfl⟩⟩
theorem call_56 : Callable Tryd.prog 56 := ⟨⟨_, Tryd.func56, by kernel_rfl, by kernel_rfl⟩⟩
theorem call_57 : Callable Tryd.prog 57 := ⟨⟨_, Tryd.func57, by kernel_rfl, by kernel_rfl⟩⟩
theorem call_58 : Callable Tryd.prog 58 := ⟨⟨_, Tryd.func58, by kernel_rfl, by kernel_rfl⟩⟩
theorem call_59 : Callable Tryd.prog 59 := ⟨⟨_, Tryd.func59, by kernel_rfl, by kernel_rfl⟩⟩
theorem call_60 : Callable Tryd.prog 60 := ⟨⟨_, Tryd.func60, by kernel_rfl, by kernel_rfl⟩⟩
theorem call_61 : Callable Tryd.prog 61 := ⟨⟨_, Tryd.func61, by kernel_rfl, by kernel_rfl⟩⟩
theorem call_62 : Callable Tryd.prog 62 := ⟨⟨_, Tryd.func62, by kernel_rfl, by kernel_rfl⟩⟩
theorem call_63 : Callable Tryd.prog 63 := ⟨⟨_, Tryd.func63, by kernel_rfl, by kernel_rfl⟩⟩
theorem call_65 : Callable Tryd.prog 65 := ⟨⟨_, Tryd.func65, by kernel_rfl, by kernel_rfl⟩⟩
theorem call_66 : Callable Tryd.prog 66 := ⟨⟨_, Tryd.func66, by kernel_rfl, by kernel_rfl⟩⟩
theorem call_68 : Callable Tryd.prog 68 := ⟨⟨_, Tryd.func68, by kernel_rfl, by kernel_rfl⟩⟩
theorem call_69 : Callable Tryd.prog 69 := ⟨⟨_, Tryd.func69, by kernel_rfl, by kernel_rfl⟩⟩
theorem call_70 : Callable Tryd.prog 70 := ⟨⟨_, Tryd.func70, by kernel_rfl, by kernel_rfl⟩⟩
theorem call_71 : Callable Tryd.prog 71 := ⟨⟨_, Tryd.func71, by kernel_rfl, by kernel_rfl⟩⟩
theorem call_72 : Callable Tryd.prog 72 := ⟨⟨_, Tryd.func72, by kernel_rfl, by kernel_rfl⟩⟩
theorem call_73 : Callable Tryd.prog 73 := ⟨⟨_, Tryd.func73, by kernel_rfl, by kernel_rfl⟩⟩
theorem call_74 : Callable Tryd.prog 74 := ⟨⟨_, Tryd.func74, by kernel_rfl, by kernel_rfl⟩⟩
theorem call_75 : Callable Tryd.prog 75 := ⟨⟨_, Tryd.func75, by kernel_rfl, by kernel_rfl⟩⟩
theorem call_76 : Callable Tryd.prog 76 := ⟨⟨_, Tryd.func76, by kernel_rfl, by kernel_rfl⟩⟩
theorem call_77 : Callable Tryd.prog 77 := ⟨⟨_, Tryd.func77, by kernel_rfl, by kernel_rfl⟩⟩
theorem call_79 : Callable Tryd.prog 79 := ⟨⟨_, Tryd.func79, by kernel_rfl, by kernel_rfl⟩⟩
theorem call_80 : Callable Tryd.prog 80 := ⟨⟨_, Tryd.func80, by kernel_rfl, by kernel_rfl⟩⟩
theorem call_81 : Callable Tryd.prog 81 := ⟨⟨_, Tryd.func81, by kernel_rfl, by kernel_rfl⟩⟩
theorem call_82 : Callable Tryd.prog 82 := ⟨⟨_, Tryd.func82, by kernel_rfl, by kernel_rfl⟩⟩
theorem call_83 : Callable Tryd.prog 83 := ⟨⟨_, Tryd.func83, by kernel_rfl, by kernel_rfl⟩⟩
@[simp] theorem bneI (a b : Int) : (a != b) = !decide (a = b) := by by_cases h : a = b <;> simp [h]
@[simp] theorem beqI (a b : Int) : (a == b) = decide (a = b) := by by_cases h : a = b <;> simp [h]
attribute [simp] frzAt List.take_of_length_le vids vidss cellD cellsD leR leA FV.le D.leL mskE mskS opTmps tmpsOf Op.operands Call.operands ptrsOf rdIds shIds isSh newOk gotE putE mvN mkEv wrEv updS getO Ev.app evDr1 evDr isStore ptrIds wrIds msk fids fidss oids evIds callS τ1 placesT evOne evPs ArgsOk ArgOk σ0 renE pickS srcV srcT srcC evAp evCo seqQ blockQ retQ ren rens renO renOs σ1 setAll evOps wantS evOp evA evX evXs evOpt ofVal ofLeaf ofLeaves setS get evBin evInt evStr evCpx evFlt evLd evStN evIA evIx evFA evField evUn evCv evSl bnd ldD evBu lenV mxI mnI TI.ag D.cs elemAt mkV allD partV cellsV plainV fvCells spl evBd fillV partsD szD okEl TI.zeroD evB envFrom retAll retOne pack viewF viewFs D.flat D.flats flatV flatVs flatR keepE below belows belowE belowO belowS
end Go.Proofs.YtjlamhilnkadcaaDoor.Pay
