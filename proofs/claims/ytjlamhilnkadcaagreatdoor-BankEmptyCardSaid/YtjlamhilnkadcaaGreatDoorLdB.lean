/- The variables that walks read, out of a door's row. No statement of the seed is proved here. -/
import Derived.Test.YtjlamhilnkadcaaGreatDoorLdA
import Derived.Test.YtjlamhilnkadcaaGreatDoorStA
namespace Go.Proofs.YtjlamhilnkadcaaGreatDoor.Pay
open Go Go.RowKit
theorem starErr : "*" ++ "errors.errorString" = "*errors.errorString" := by decide
theorem rowErr (u : TypeId) (h : Tryz.prog.typeName? 3 u = some "*errors.errorString") : u = 160 :=
  typeName_ptr_named (nm := "errors.errorString") (by rw [starErr]; kernel_rfl) (by kernel_rfl) (by decide) u (by rw [starErr]; exact h)
theorem cell_int {w : World} {g : Nat} {t : TypeId} {zero : Array Value} {k : IntKind} (h : w.ShapedOpen Tryz.prog) (hg : g < Tryz.prog.globals.size)
    (h0 : ((begin Tryz.prog (fun _ _ => 0) default).world.heap[g]?).bind Obj.row? = some (zero, t)) (hz : zero.size = 1) (hb : Tryz.prog.buildable t = true) (hc : Tryz.prog.cellTypes Tryz.prog.depth t = some [t]) (hu : Tryz.prog.underlying t = some (.int k)) :
    ∃ m t fr, w.heap[g]? = some (.cells #[.int k m] t fr) := by
  obtain ⟨m, hm⟩ := cell_of_shapedOpen_int h hg h0 hz hb hc hu
  obtain ⟨cs, hh, hs, hr⟩ := h.1 g zero t hg h0
  have h1 : cs.size = 1 := by omega
  have h2 : cs[0]? = some (.int k m) := by simpa [World.cell?, hh] using hm
  have h3 : cs = #[.int k m] := by
    apply Array.ext
    · simp [h1]
    · intro i hi1 hi2
      have : i = 0 := by omega
      subst this
      rw [Array.getElem?_eq_getElem hi1] at h2
      simpa using Option.some.inj h2
  subst h3
  exact ⟨m, _, _, hh⟩
theorem gok {W : World} (hS : W.ShapedOpen Tryz.prog) {l1 l2 l3 : List (String × DataW Unit)} (ht : laidMet Tryz.prog (("internal/strconv.uint64pow10", Rows.laid_internal_strconv_uint64pow10) :: l1) W)
    (hr : laidMet Tryz.prog (("strconv.ErrRange", Rows.laid_strconv_ErrRange) :: l2) W) (hs : laidMet Tryz.prog (("strconv.ErrSyntax", Rows.laid_strconv_ErrSyntax) :: l3) W) : GOk W (lt W) := by
  obtain ⟨m, t0, f0, h0⟩ := cell_int (g := 0) (t := 3) (zero := #[.int .i64 0]) (k := .i64) hS (of_decide_eq_true (by kernel_rfl)) (by kernel_rfl) (by kernel_rfl) (by kernel_rfl) (by kernel_rfl) Tryz.underlying3
  have gt : Tryz.prog.globalNamed "internal/strconv.uint64pow10" = some 3 := by kernel_rfl
  have gr : Tryz.prog.globalNamed "strconv.ErrRange" = some 2 := by kernel_rfl
  have gs : Tryz.prog.globalNamed "strconv.ErrSyntax" = some 1 := by kernel_rfl
  have htab := Lib.tabIs_of_head (k := .u64) (zs := Lib.pow10Tab) (t := 151) (e := 103) (n := 20) gt (by kernel_rfl) Tryz.underlying151 Tryz.underlying103 (by kernel_rfl) (by kernel_rfl) ht
  obtain ⟨a1, s1, hv1, _⟩ := laid_sentinel hr gr (ti := 68) (by kernel_rfl) Tryz.underlying68 rowErr Tryz.underlying160 Tryz.underlying162 rfl rfl Tryz.underlying9 (by kernel_rfl) (by kernel_rfl)
  obtain ⟨a2, s2, hv2, _⟩ := laid_sentinel hs gs (ti := 68) (by kernel_rfl) Tryz.underlying68 rowErr Tryz.underlying160 Tryz.underlying162 rfl rfl Tryz.underlying9 (by kernel_rfl) (by kernel_rfl)
  obtain ⟨t3, f3, h3⟩ := var_heap gt htab
  obtain ⟨t1, f1, h1⟩ := var_heap gr hv1
  obtain ⟨t2, f2, h2⟩ := var_heap gs hv2
  have hlt : ∀ {b : Nat} {o : Obj}, W.heap[b]? = some o → lt W b := fun h => (Array.getElem?_eq_some_iff.1 h).1
  have key : ∀ p ∈ gT, p = (0, .int) ∨ p = (2, .iface) ∨ p = (1, .iface) ∨ p = (3, .tab .u64 Lib.pow10Tab) := by
    intro p hp
    have e : gT = [(0, .int), (1, .iface), (2, .iface), (3, .tab .u64 Lib.pow10Tab)] := by kernel_rfl
    rw [e] at hp
    simp only [List.mem_cons, List.not_mem_nil, or_false] at hp
    rcases hp with h | h | h | h
    · exact .inl h
    · exact .inr (.inr (.inl h))
    · exact .inr (.inl h)
    · exact .inr (.inr (.inr h))
  intro p hp
  rcases key p hp with rfl | rfl | rfl | rfl
  · exact ⟨hlt h0, m, t0, f0, h0⟩
  · exact ⟨hlt h1, _, _, t1, f1, h1⟩
  · exact ⟨hlt h2, _, _, t2, f2, h2⟩
  · exact ⟨hlt h3, t3, f3, h3⟩
end Go.Proofs.YtjlamhilnkadcaaGreatDoor.Pay
