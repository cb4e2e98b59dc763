/- The table of types. Written by tab.py. -/
import Derived.Test.YtfbpcjkhgiickaaPayY
import Derived.Test.YtfbpcjkhgiickaaProg
import Derived.KernelRfl
namespace Go.Proofs.Ytfbpcjkhgiickaa.Pay
open Go Go.Proofs
def lookT : List (Nat × TI) → Nat → Option TI
  | [], _ => none
  | (s, v) :: r, t => if s = t then some v else lookT r t
def AllT (P : Program) : List (Nat × TI) → Prop
  | [] => True
  | p :: r => TIOk P p.1 p.2 ∧ AllT P r
theorem allT {P : Program} : ∀ {l : List (Nat × TI)} {t : Nat} {i : TI}, AllT P l → lookT l t = some i → TIOk P t i
  | [], _, _, _, h => by simp [lookT] at h
  | (s, v) :: r, t, i, ha, h => by
    unfold lookT at h
    by_cases hs : s = t
    · rw [if_pos hs] at h; cases h; subst hs; exact ha.1
    · rw [if_neg hs] at h; exact allT ha.2 h
theorem TIOk.of {P : Program} {t : Nat} {i : TI} (hk : TKOk P t i.kind) (h : (P.info? t).isSome = true) (h1 : ((P.info? t).get h).size = i.size) (h2 : ((P.info? t).get h).bytes = i.bytes)
    (h3 : ((P.info? t).get h).zero.isSome = true) (h4 : ofLeaves (((P.info? t).get h).zero.get h3).cells.toList = some i.zero) (h5 : (((P.info? t).get h).zero.get h3).cells.size = i.size) : TIOk P t i :=
  ⟨hk, _, _, (Option.some_get h).symm, h1, h2, (Option.some_get h3).symm, h4, h5⟩
def ti2 : TI := ⟨.int .i64, 1, 8, [.int .i64 0]⟩
theorem tiok2 : TIOk Try.prog 2 ti2 := TIOk.of (Try.underlying2) (by kernel_rfl) (by kernel_rfl) (by kernel_rfl) (by kernel_rfl) (by kernel_rfl) (by kernel_rfl)
def ti3 : TI := ⟨.int .i64, 1, 8, [.int .i64 0]⟩
theorem tiok3 : TIOk Try.prog 3 ti3 := TIOk.of (Try.underlying3) (by kernel_rfl) (by kernel_rfl) (by kernel_rfl) (by kernel_rfl) (by kernel_rfl) (by kernel_rfl)
def ti4 : TI := ⟨.bool, 1, 1, [.bool false]⟩
theorem tiok4 : TIOk Try.prog 4 ti4 := TIOk.of (Try.underlying4) (by kernel_rfl) (by kernel_rfl) (by kernel_rfl) (by kernel_rfl) (by kernel_rfl) (by kernel_rfl)
def ti5 : TI := ⟨.int .u8, 1, 1, [.int .u8 0]⟩
theorem tiok5 : TIOk Try.prog 5 ti5 := TIOk.of (Try.underlying5) (by kernel_rfl) (by kernel_rfl) (by kernel_rfl) (by kernel_rfl) (by kernel_rfl) (by kernel_rfl)
def ti6 : TI := ⟨.int .u8, 1, 1, [.int .u8 0]⟩
theorem tiok6 : TIOk Try.prog 6 ti6 := TIOk.of (Try.underlying6) (by kernel_rfl) (by kernel_rfl) (by kernel_rfl) (by kernel_rfl) (by kernel_rfl) (by kernel_rfl)
def ti7 : TI := ⟨.struct [(0, 2), (1, 3), (2, 4), (3, 6)], 4, 24, [.int .i64 0, .int .i64 0, .bool false, .int .u8 0]⟩
theorem tiok7 : TIOk Try.prog 7 ti7 := TIOk.of ⟨_, Try.underlying7, rfl⟩ (by kernel_rfl) (by kernel_rfl) (by kernel_rfl) (by kernel_rfl) (by kernel_rfl) (by kernel_rfl)
def ti8 : TI := ⟨.struct [(0, 2), (1, 3), (2, 4), (3, 6)], 4, 24, [.int .i64 0, .int .i64 0, .bool false, .int .u8 0]⟩
theorem tiok8 : TIOk Try.prog 8 ti8 := TIOk.of ⟨_, Try.underlying8, rfl⟩ (by kernel_rfl) (by kernel_rfl) (by kernel_rfl) (by kernel_rfl) (by kernel_rfl) (by kernel_rfl)
def ti9 : TI := ⟨.str, 1, 16, [.str []]⟩
theorem tiok9 : TIOk Try.prog 9 ti9 := TIOk.of (Try.underlying9) (by kernel_rfl) (by kernel_rfl) (by kernel_rfl) (by kernel_rfl) (by kernel_rfl) (by kernel_rfl)
def ti10 : TI := ⟨.str, 1, 16, [.str []]⟩
theorem tiok10 : TIOk Try.prog 10 ti10 := TIOk.of (Try.underlying10) (by kernel_rfl) (by kernel_rfl) (by kernel_rfl) (by kernel_rfl) (by kernel_rfl) (by kernel_rfl)
def ti11 : TI := ⟨.str, 1, 16, [.str []]⟩
theorem tiok11 : TIOk Try.prog 11 ti11 := TIOk.of (Try.underlying11) (by kernel_rfl) (by kernel_rfl) (by kernel_rfl) (by kernel_rfl) (by kernel_rfl) (by kernel_rfl)
def ti12 : TI := ⟨.int .u64, 1, 8, [.int .u64 0]⟩
theorem tiok12 : TIOk Try.prog 12 ti12 := TIOk.of (Try.underlying12) (by kernel_rfl) (by kernel_rfl) (by kernel_rfl) (by kernel_rfl) (by kernel_rfl) (by kernel_rfl)
def ti13 : TI := ⟨.struct [(0, 9), (1, 12)], 2, 24, [.str [], .int .u64 0]⟩
theorem tiok13 : TIOk Try.prog 13 ti13 := TIOk.of ⟨_, Try.underlying13, rfl⟩ (by kernel_rfl) (by kernel_rfl) (by kernel_rfl) (by kernel_rfl) (by kernel_rfl) (by kernel_rfl)
def ti14 : TI := ⟨.struct [(0, 9), (1, 12)], 2, 24, [.str [], .int .u64 0]⟩
theorem tiok14 : TIOk Try.prog 14 ti14 := TIOk.of ⟨_, Try.underlying14, rfl⟩ (by kernel_rfl) (by kernel_rfl) (by kernel_rfl) (by kernel_rfl) (by kernel_rfl) (by kernel_rfl)
def ti15 : TI := ⟨.ptr 84, 1, 8, [.nilp]⟩
theorem tiok15 : TIOk Try.prog 15 ti15 := TIOk.of (Try.underlying15) (by kernel_rfl) (by kernel_rfl) (by kernel_rfl) (by kernel_rfl) (by kernel_rfl) (by kernel_rfl)
def ti16 : TI := ⟨.ptr 87, 1, 8, [.nilp]⟩
theorem tiok16 : TIOk Try.prog 16 ti16 := TIOk.of (Try.underlying16) (by kernel_rfl) (by kernel_rfl) (by kernel_rfl) (by kernel_rfl) (by kernel_rfl) (by kernel_rfl)
def ti17 : TI := ⟨.ptr 96, 1, 8, [.nilp]⟩
theorem tiok17 : TIOk Try.prog 17 ti17 := TIOk.of (Try.underlying17) (by kernel_rfl) (by kernel_rfl) (by kernel_rfl) (by kernel_rfl) (by kernel_rfl) (by kernel_rfl)
def ti18 : TI := ⟨.struct [(0, 17)], 1, 8, [.nilp]⟩
theorem tiok18 : TIOk Try.prog 18 ti18 := TIOk.of ⟨_, Try.underlying18, rfl⟩ (by kernel_rfl) (by kernel_rfl) (by kernel_rfl) (by kernel_rfl) (by kernel_rfl) (by kernel_rfl)
def ti19 : TI := ⟨.struct [(0, 17)], 1, 8, [.nilp]⟩
theorem tiok19 : TIOk Try.prog 19 ti19 := TIOk.of ⟨_, Try.underlying19, rfl⟩ (by kernel_rfl) (by kernel_rfl) (by kernel_rfl) (by kernel_rfl) (by kernel_rfl) (by kernel_rfl)
def ti20 : TI := ⟨.iface, 1, 16, [.nili]⟩
theorem tiok20 : TIOk Try.prog 20 ti20 := TIOk.of ⟨_, Try.underlying20⟩ (by kernel_rfl) (by kernel_rfl) (by kernel_rfl) (by kernel_rfl) (by kernel_rfl) (by kernel_rfl)
def ti21 : TI := ⟨.int .i32, 1, 4, [.int .i32 0]⟩
theorem tiok21 : TIOk Try.prog 21 ti21 := TIOk.of (Try.underlying21) (by kernel_rfl) (by kernel_rfl) (by kernel_rfl) (by kernel_rfl) (by kernel_rfl) (by kernel_rfl)
def ti22 : TI := ⟨.slice 3, 1, 24, [.nil]⟩
theorem tiok22 : TIOk Try.prog 22 ti22 := TIOk.of (Try.underlying22) (by kernel_rfl) (by kernel_rfl) (by kernel_rfl) (by kernel_rfl) (by kernel_rfl) (by kernel_rfl)
def ti24 : TI := ⟨.int .i64, 1, 8, [.int .i64 0]⟩
theorem tiok24 : TIOk Try.prog 24 ti24 := TIOk.of (Try.underlying24) (by kernel_rfl) (by kernel_rfl) (by kernel_rfl) (by kernel_rfl) (by kernel_rfl) (by kernel_rfl)
def ti34 : TI := ⟨.int .u64, 1, 8, [.int .u64 0]⟩
theorem tiok34 : TIOk Try.prog 34 ti34 := TIOk.of (Try.underlying34) (by kernel_rfl) (by kernel_rfl) (by kernel_rfl) (by kernel_rfl) (by kernel_rfl) (by kernel_rfl)
def ti35 : TI := ⟨.int .u32, 1, 4, [.int .u32 0]⟩
theorem tiok35 : TIOk Try.prog 35 ti35 := TIOk.of (Try.underlying35) (by kernel_rfl) (by kernel_rfl) (by kernel_rfl) (by kernel_rfl) (by kernel_rfl) (by kernel_rfl)
def ti36 : TI := ⟨.int .u64, 1, 8, [.int .u64 0]⟩
theorem tiok36 : TIOk Try.prog 36 ti36 := TIOk.of (Try.underlying36) (by kernel_rfl) (by kernel_rfl) (by kernel_rfl) (by kernel_rfl) (by kernel_rfl) (by kernel_rfl)
def ti38 : TI := ⟨.slice 34, 1, 24, [.nil]⟩
theorem tiok38 : TIOk Try.prog 38 ti38 := TIOk.of (Try.underlying38) (by kernel_rfl) (by kernel_rfl) (by kernel_rfl) (by kernel_rfl) (by kernel_rfl) (by kernel_rfl)
def ti64 : TI := ⟨.struct [(0, 4), (1, 22)], 2, 32, [.bool false, .nil]⟩
theorem tiok64 : TIOk Try.prog 64 ti64 := TIOk.of ⟨_, Try.underlying64, rfl⟩ (by kernel_rfl) (by kernel_rfl) (by kernel_rfl) (by kernel_rfl) (by kernel_rfl) (by kernel_rfl)
def ti65 : TI := ⟨.struct [(0, 4), (1, 22)], 2, 32, [.bool false, .nil]⟩
theorem tiok65 : TIOk Try.prog 65 ti65 := TIOk.of ⟨_, Try.underlying65, rfl⟩ (by kernel_rfl) (by kernel_rfl) (by kernel_rfl) (by kernel_rfl) (by kernel_rfl) (by kernel_rfl)
def ti71 : TI := ⟨.iface, 1, 16, [.nili]⟩
theorem tiok71 : TIOk Try.prog 71 ti71 := TIOk.of ⟨_, Try.underlying71⟩ (by kernel_rfl) (by kernel_rfl) (by kernel_rfl) (by kernel_rfl) (by kernel_rfl) (by kernel_rfl)
def ti72 : TI := ⟨.iface, 1, 16, [.nili]⟩
theorem tiok72 : TIOk Try.prog 72 ti72 := TIOk.of ⟨_, Try.underlying72⟩ (by kernel_rfl) (by kernel_rfl) (by kernel_rfl) (by kernel_rfl) (by kernel_rfl) (by kernel_rfl)
def ti81 : TI := ⟨.ptr 98, 1, 8, [.nilp]⟩
theorem tiok81 : TIOk Try.prog 81 ti81 := TIOk.of (Try.underlying81) (by kernel_rfl) (by kernel_rfl) (by kernel_rfl) (by kernel_rfl) (by kernel_rfl) (by kernel_rfl)
def ti83 : TI := ⟨.struct [(0, 17), (1, 17), (2, 17), (3, 9)], 4, 40, [.nilp, .nilp, .nilp, .str []]⟩
theorem tiok83 : TIOk Try.prog 83 ti83 := TIOk.of ⟨_, Try.underlying83, rfl⟩ (by kernel_rfl) (by kernel_rfl) (by kernel_rfl) (by kernel_rfl) (by kernel_rfl) (by kernel_rfl)
def ti84 : TI := ⟨.struct [(0, 17), (1, 17), (2, 17), (3, 9)], 4, 40, [.nilp, .nilp, .nilp, .str []]⟩
theorem tiok84 : TIOk Try.prog 84 ti84 := TIOk.of ⟨_, Try.underlying84, rfl⟩ (by kernel_rfl) (by kernel_rfl) (by kernel_rfl) (by kernel_rfl) (by kernel_rfl) (by kernel_rfl)
def ti85 : TI := ⟨.array 0 16, 0, 0, []⟩
theorem tiok85 : TIOk Try.prog 85 ti85 := TIOk.of (Try.underlying85) (by kernel_rfl) (by kernel_rfl) (by kernel_rfl) (by kernel_rfl) (by kernel_rfl) (by kernel_rfl)
def ti86 : TI := ⟨.struct [(0, 85)], 0, 0, []⟩
theorem tiok86 : TIOk Try.prog 86 ti86 := TIOk.of ⟨_, Try.underlying86, rfl⟩ (by kernel_rfl) (by kernel_rfl) (by kernel_rfl) (by kernel_rfl) (by kernel_rfl) (by kernel_rfl)
def ti87 : TI := ⟨.struct [(0, 85)], 0, 0, []⟩
theorem tiok87 : TIOk Try.prog 87 ti87 := TIOk.of ⟨_, Try.underlying87, rfl⟩ (by kernel_rfl) (by kernel_rfl) (by kernel_rfl) (by kernel_rfl) (by kernel_rfl) (by kernel_rfl)
def ti89 : TI := ⟨.int .u8, 1, 1, [.int .u8 0]⟩
theorem tiok89 : TIOk Try.prog 89 ti89 := TIOk.of (Try.underlying89) (by kernel_rfl) (by kernel_rfl) (by kernel_rfl) (by kernel_rfl) (by kernel_rfl) (by kernel_rfl)
def ti90 : TI := ⟨.int .u8, 1, 1, [.int .u8 0]⟩
theorem tiok90 : TIOk Try.prog 90 ti90 := TIOk.of (Try.underlying90) (by kernel_rfl) (by kernel_rfl) (by kernel_rfl) (by kernel_rfl) (by kernel_rfl) (by kernel_rfl)
def ti92 : TI := ⟨.ptr 5, 1, 8, [.nilp]⟩
theorem tiok92 : TIOk Try.prog 92 ti92 := TIOk.of (Try.underlying92) (by kernel_rfl) (by kernel_rfl) (by kernel_rfl) (by kernel_rfl) (by kernel_rfl) (by kernel_rfl)
def ti93 : TI := ⟨.int .i32, 1, 4, [.int .i32 0]⟩
theorem tiok93 : TIOk Try.prog 93 ti93 := TIOk.of (Try.underlying93) (by kernel_rfl) (by kernel_rfl) (by kernel_rfl) (by kernel_rfl) (by kernel_rfl) (by kernel_rfl)
def ti94 : TI := ⟨.int .i32, 1, 4, [.int .i32 0]⟩
theorem tiok94 : TIOk Try.prog 94 ti94 := TIOk.of (Try.underlying94) (by kernel_rfl) (by kernel_rfl) (by kernel_rfl) (by kernel_rfl) (by kernel_rfl) (by kernel_rfl)
def ti97 : TI := ⟨.struct [(0, 9)], 1, 16, [.str []]⟩
theorem tiok97 : TIOk Try.prog 97 ti97 := TIOk.of ⟨_, Try.underlying97, rfl⟩ (by kernel_rfl) (by kernel_rfl) (by kernel_rfl) (by kernel_rfl) (by kernel_rfl) (by kernel_rfl)
def ti98 : TI := ⟨.struct [(0, 9)], 1, 16, [.str []]⟩
theorem tiok98 : TIOk Try.prog 98 ti98 := TIOk.of ⟨_, Try.underlying98, rfl⟩ (by kernel_rfl) (by kernel_rfl) (by kernel_rfl) (by kernel_rfl) (by kernel_rfl) (by kernel_rfl)
def tabL : List (Nat × TI) := [(2, ti2), (3, ti3), (4, ti4), (5, ti5), (6, ti6), (7, ti7), (8, ti8), (9, ti9), (10, ti10), (11, ti11), (12, ti12), (13, ti13), (14, ti14), (15, ti15), (16, ti16), (17, ti17), (18, ti18), (19, ti19), (20, ti20), (21, ti21), (22, ti22), (24, ti24), (34, ti34), (35, ti35), (36, ti36), (38, ti38), (64, ti64), (65, ti65), (71, ti71), (72, ti72), (81, ti81), (83, ti83), (84, ti84), (85, ti85), (86, ti86), (87, ti87), (89, ti89), (90, ti90), (92, ti92), (93, ti93), (94, ti94), (97, ti97), (98, ti98)]
def tab (t : Nat) : Option TI := lookT tabL t
theorem tabOk : TabOk Try.prog tab := fun _ _ h => allT (show AllT Try.prog tabL from ⟨tiok2, tiok3, tiok4, tiok5, tiok6, tiok7, tiok8, tiok9, tiok10, tiok11, tiok12, tiok13, tiok14, tiok15, tiok16, tiok17, tiok18, tiok19, tiok20, tiok21, tiok22, tiok24, tiok34, tiok35, tiok36, tiok38, tiok64, tiok65, tiok71, tiok72, tiok81, tiok83, tiok84, tiok85, tiok86, tiok87, tiok89, tiok90, tiok92, tiok93, tiok94, tiok97, tiok98, trivial⟩) h
@[simp] theorem tab_2 : tab 2 = some ⟨.int .i64, 1, 8, [.int .i64 0]⟩ := rfl
@[simp] theorem tab_3 : tab 3 = some ⟨.int .i64, 1, 8, [.int .i64 0]⟩ := rfl
@[simp] theorem tab_4 : tab 4 = some ⟨.bool, 1, 1, [.bool false]⟩ := rfl
@[simp] theorem tab_5 : tab 5 = some ⟨.int .u8, 1, 1, [.int .u8 0]⟩ := rfl
@[simp] theorem tab_6 : tab 6 = some ⟨.int .u8, 1, 1, [.int .u8 0]⟩ := rfl
@[simp] theorem tab_7 : tab 7 = some ⟨.struct [(0, 2), (1, 3), (2, 4), (3, 6)], 4, 24, [.int .i64 0, .int .i64 0, .bool false, .int .u8 0]⟩ := rfl
@[simp] theorem tab_8 : tab 8 = some ⟨.struct [(0, 2), (1, 3), (2, 4), (3, 6)], 4, 24, [.int .i64 0, .int .i64 0, .bool false, .int .u8 0]⟩ := rfl
@[simp] theorem tab_9 : tab 9 = some ⟨.str, 1, 16, [.str []]⟩ := rfl
@[simp] theorem tab_10 : tab 10 = some ⟨.str, 1, 16, [.str []]⟩ := rfl
@[simp] theorem tab_11 : tab 11 = some ⟨.str, 1, 16, [.str []]⟩ := rfl
@[simp] theorem tab_12 : tab 12 = some ⟨.int .u64, 1, 8, [.int .u64 0]⟩ := rfl
@[simp] theorem tab_13 : tab 13 = some ⟨.struct [(0, 9), (1, 12)], 2, 24, [.str [], .int .u64 0]⟩ := rfl
@[simp] theorem tab_14 : tab 14 = some ⟨.struct [(0, 9), (1, 12)], 2, 24, [.str [], .int .u64 0]⟩ := rfl
@[simp] theorem tab_15 : tab 15 = some ⟨.ptr 84, 1, 8, [.nilp]⟩ := rfl
@[simp] theorem tab_16 : tab 16 = some ⟨.ptr 87, 1, 8, [.nilp]⟩ := rfl
@[simp] theorem tab_17 : tab 17 = some ⟨.ptr 96, 1, 8, [.nilp]⟩ := rfl
@[simp] theorem tab_18 : tab 18 = some ⟨.struct [(0, 17)], 1, 8, [.nilp]⟩ := rfl
@[simp] theorem tab_19 : tab 19 = some ⟨.struct [(0, 17)], 1, 8, [.nilp]⟩ := rfl
@[simp] theorem tab_20 : tab 20 = some ⟨.iface, 1, 16, [.nili]⟩ := rfl
@[simp] theorem tab_21 : tab 21 = some ⟨.int .i32, 1, 4, [.int .i32 0]⟩ := rfl
@[simp] theorem tab_22 : tab 22 = some ⟨.slice 3, 1, 24, [.nil]⟩ := rfl
@[simp] theorem tab_24 : tab 24 = some ⟨.int .i64, 1, 8, [.int .i64 0]⟩ := rfl
@[simp] theorem tab_34 : tab 34 = some ⟨.int .u64, 1, 8, [.int .u64 0]⟩ := rfl
@[simp] theorem tab_35 : tab 35 = some ⟨.int .u32, 1, 4, [.int .u32 0]⟩ := rfl
@[simp] theorem tab_36 : tab 36 = some ⟨.int .u64, 1, 8, [.int .u64 0]⟩ := rfl
@[simp] theorem tab_38 : tab 38 = some ⟨.slice 34, 1, 24, [.nil]⟩ := rfl
@[simp] theorem tab_64 : tab 64 = some ⟨.struct [(0, 4), (1, 22)], 2, 32, [.bool false, .nil]⟩ := rfl
@[simp] theorem tab_65 : tab 65 = some ⟨.struct [(0, 4), (1, 22)], 2, 32, [.bool false, .nil]⟩ := rfl
@[simp] theorem tab_71 : tab 71 = some ⟨.iface, 1, 16, [.nili]⟩ := rfl
@[simp] theorem tab_72 : tab 72 = some ⟨.iface, 1, 16, [.nili]⟩ := rfl
@[simp] theorem tab_81 : tab 81 = some ⟨.ptr 98, 1, 8, [.nilp]⟩ := rfl
@[simp] theorem tab_83 : tab 83 = some ⟨.struct [(0, 17), (1, 17), (2, 17), (3, 9)], 4, 40, [.nilp, .nilp, .nilp, .str []]⟩ := rfl
@[simp] theorem tab_84 : tab 84 = some ⟨.struct [(0, 17), (1, 17), (2, 17), (3, 9)], 4, 40, [.nilp, .nilp, .nilp, .str []]⟩ := rfl
@[simp] theorem tab_85 : tab 85 = some ⟨.array 0 16, 0, 0, []⟩ := rfl
@[simp] theorem tab_86 : tab 86 = some ⟨.struct [(0, 85)], 0, 0, []⟩ := rfl
@[simp] theorem tab_87 : tab 87 = some ⟨.struct [(0, 85)], 0, 0, []⟩ := rfl
@[simp] theorem tab_89 : tab 89 = some ⟨.int .u8, 1, 1, [.int .u8 0]⟩ := rfl
@[simp] theorem tab_90 : tab 90 = some ⟨.int .u8, 1, 1, [.int .u8 0]⟩ := rfl
@[simp] theorem tab_92 : tab 92 = some ⟨.ptr 5, 1, 8, [.nilp]⟩ := rfl
@[simp] theorem tab_93 : tab 93 = some ⟨.int .i32, 1, 4, [.int .i32 0]⟩ := rfl
@[simp] theorem tab_94 : tab 94 = some ⟨.int .i32, 1, 4, [.int .i32 0]⟩ := rfl
@[simp] theorem tab_97 : tab 97 = some ⟨.struct [(0, 9)], 1, 16, [.str []]⟩ := rfl
@[simp] theorem tab_98 : tab 98 = some ⟨.struct [(0, 9)], 1, 16, [.str []]⟩ := rfl
theorem call_3 : Callable Try.prog 3 := ⟨⟨_, Try.func3, by kernel_rfl, by kernel_rfl⟩⟩
theorem call_4 : Callable Try.prog 4 := ⟨⟨_, Try.func4, by kernel_rfl, by kernel_rfl⟩⟩
theorem call_5 : Callable Try.prog 5 := ⟨⟨_, Try.func5, by kernel_rfl, by kernel_rfl⟩⟩
theorem call_6 : Callable Try.prog 6 := ⟨⟨_, Try.func6, by kernel_rfl, by kernel_rfl⟩⟩
theorem call_7 : Callable Try.prog 7 := ⟨⟨_, Try.func7, by kernel_rfl, by kernel_rfl⟩⟩
theorem call_8 : Callable Try.prog 8 := ⟨⟨_, Try.func8, by kernel_rfl, by kernel_rfl⟩⟩
theorem call_9 : Callable Try.prog 9 := ⟨⟨_, Try.func9, by kernel_rfl, by kernel_rfl⟩⟩
theorem call_10 : Callable Try.prog 10 := ⟨⟨_, Try.func10, by kernel_rfl, by kernel_rfl⟩⟩
theorem call_11 : Callable Try.prog 11 := ⟨⟨_, Try.func11, by kernel_rfl, by kernel_rfl⟩⟩
theorem call_12 : Callable Try.prog 12 := ⟨⟨_, Try.func12, by kernel_rfl, by kernel_rfl⟩⟩
theorem call_13 : Callable Try.prog 13 := ⟨⟨_, Try.func13, by kernel_rfl, by kernel_rfl⟩⟩
theorem call_14 : Callable Try.prog 14 := ⟨⟨_, Try.func14, by kernel_rfl, by kernel_rfl⟩⟩
theorem call_15 : Callable Try.prog 15 := ⟨⟨_, Try.func15, by kernel_rfl, by kernel_rfl⟩⟩
theorem call_16 : Callable Try.prog 16 := ⟨⟨_, Try.func16, by kernel_rfl, by kernel_rfl⟩⟩
theorem call_17 : Callable Try.prog 17 := ⟨⟨_, Try.func17, by kernel_rfl, by kernel_rfl⟩⟩
theorem call_18 : Callable Try.prog 18 := ⟨⟨_, Try.func18, by kernel_rfl, by kernel_rfl⟩⟩
theorem call_19 : Callable Try.prog 19 := ⟨⟨_, Try.func19, by kernel_rfl, by kernel_rfl⟩⟩
theorem call_20 : Callable Try.prog 20 := ⟨⟨_, Try.func20, by kernel_rfl, by kernel_rfl⟩⟩
theorem call_21 : Callable Try.prog 21 := ⟨⟨_, Try.func21, by kernel_rfl, by kernel_rfl⟩⟩
theorem call_22 : Callable Try.prog 22 := ⟨⟨_, Try.func22, by kernel_rfl, by kernel_rfl⟩⟩
theorem call_23 : Callable Try.prog 23 := ⟨⟨_, Try.func23, by kernel_rfl, by kernel_rfl⟩⟩
theorem call_24 : Callable Try.prog 24 := ⟨⟨_, Try.func24, by kernel_rfl, by kernel_rfl⟩⟩
theorem call_25 : Callable Try.prog 25 := ⟨⟨_, Try.func25, by kernel_rfl, by kernel_rfl⟩⟩
theorem call_26 : Callable Try.prog 26 := ⟨⟨_, Try.func26, by kernel_rfl, by kernel_rfl⟩⟩
theorem call_27 : Callable Try.prog 27 := ⟨⟨_, Try.func27, by kernel_rfl, by kernel_rfl⟩⟩
theorem call_28 : Callable Try.prog 28 := ⟨⟨_, Try.func28, by kernel_rfl, by kernel_rfl⟩⟩
theorem call_29 : Callable Try.prog 29 := ⟨⟨_, Try.func29, by kernel_rfl, by kernel_rfl⟩⟩
theorem call_30 : Callable Try.prog 30 := ⟨⟨_, Try.func30, by kernel_rfl, by kernel_rfl⟩⟩
theorem call_31 : Callable Try.prog 31 := ⟨⟨_, Try.func31, by kernel_rfl, by kernel_rfl⟩⟩
theorem call_32 : Callable Try.prog 32 := ⟨⟨_, Try.func32, by kernel_rfl, by kernel_rfl⟩⟩
theorem call_33 : Callable Try.prog 33 := ⟨⟨_, Try.func33, by kernel_rfl, by kernel_rfl⟩⟩
theorem call_34 : Callable Try.prog 34 := ⟨⟨_, Try.func34, by kernel_rfl, by kernel_rfl⟩⟩
theorem call_35 : Callable Try.prog 35 := ⟨⟨_, Try.func35, by kernel_rfl, by kernel_rfl⟩⟩
theorem call_36 : Callable Try.prog 36 := ⟨⟨_, Try.func36, by kernel_rfl, by kernel_rfl⟩⟩
theorem call_37 : Callable Try.prog 37 := ⟨⟨_, Try.func37, by kernel_rfl, by kernel_rfl⟩⟩
theorem call_38 : Callable Try.prog 38 := ⟨⟨_, Try.func38, by kernel_rfl, by kernel_rfl⟩⟩
theorem call_39 : Callable Try.prog 39 := ⟨⟨_, Try.func39, by kernel_rfl, by kernel_rfl⟩⟩
theorem call_40 : Callable Try.prog 40 := ⟨⟨_, Try.func40, by kernel_rfl, by kernel_rfl⟩⟩
theorem call_41 : Callable Try.prog 41 := ⟨⟨_, Try.func41, by kernel_rfl, by kernel_rfl⟩⟩
theorem call_42 : Callable Try.prog 42 := ⟨⟨_, Try.func42, by kernel_rfl, by kernel_rfl⟩⟩
theorem call_43 : Callable Try.prog 43 := ⟨⟨_, Try.func43, by kernel_rfl, by kernel_rfl⟩⟩
theorem call_44 : Callable Try.prog 44 := ⟨⟨_, Try.func44, by kernel_rfl, by kernel_rfl⟩⟩
theorem call_45 : Callable Try.prog 45 := ⟨⟨_, Try.func45, by kernel_rfl, by kernel_rfl⟩⟩
theorem call_46 : Callable Try.prog 46 := ⟨⟨_, Try.func46, by kernel_rfl, by kernel_rfl⟩⟩
theorem call_47 : Callable Try.prog 47 := ⟨⟨_, Try.func47, by kernel_rfl, by kernel_rfl⟩⟩
theorem call_48 : Callable Try.prog 48 := ⟨⟨_, Try.func48, by kernel_rfl, by kernel_rfl⟩⟩
theorem call_49 : Callable Try.prog 49 := ⟨⟨_, Try.func49, by kernel_rfl, by kernel_rfl⟩⟩
theorem call_50 : Callable Try.prog 50 := ⟨⟨_, Try.func50, by kernel_rfl, by kernel_rfl⟩⟩
theorem call_51 : Callable Try.prog 51 := ⟨⟨_, Try.func51, by kernel_rfl, by kernel_rfl⟩⟩
theorem call_52 : Callable Try.prog 52 := ⟨⟨_, Try.func52, by kernel_rfl, by kernel_rfl⟩⟩
@[simp] theorem bneI (a b : Int) : (a != b) = !decide (a = b) := by by_cases h : a = b <;> simp [h]
@[simp] theorem beqI (a b : Int) : (a == b) = decide (a = b) := by by_cases h : a = b <;> simp [h]
attribute [simp] frzAt List.take_of_length_le vids vidss cellD cellsD leR leA FV.le D.leL mskE mskS opTmps tmpsOf Op.operands Call.operands ptrsOf rdIds shIds isSh newOk gotE putE mvN mkEv wrEv updS getO Ev.app evDr1 evDr isStore ptrIds wrIds msk fids fidss oids evIds callS placesT evOne evPs ArgsOk ArgOk σ0 renE pickS srcV srcC evAp evCo seqQ blockQ retQ ren rens renO renOs σ1 setAll evOps wantS evOp evA evX evXs evOpt ofVal ofLeaf ofLeaves setS get evBin evInt evStr evCpx evFlt evLd evStN evIA evIx evFA evField evUn evCv evSl bnd ldD evBu lenV mxI mnI TI.ag D.cs elemAt mkV allD partV cellsV plainV fvCells spl evBd fillV partsD szD okEl TI.zeroD evB envFrom retAll retOne pack viewF viewFs D.flat D.flats flatV flatVs flatR keepE below belows belowE belowO belowS
end Go.Proofs.Ytfbpcjkhgiickaa.Pay
