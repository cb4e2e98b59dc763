/- Cuts, conversions, builtins; all operations that turn no memory, together. No statement of the seed is proved here. -/
import Derived.Test.YtjlamhilnkadcaaGreatDoorPayD
namespace Go.Proofs.YtjlamhilnkadcaaGreatDoor.Pay
open Go Go.RowKit
set_option linter.unusedVariables false
set_option linter.unusedSimpArgs false

section
variable {P : Program} {T : Nat → Option TI} {w : World} {I : Nat → Prop} {L : List Lay} {s : St} {a : Act}

def ORelO (w : World) (I : Nat → Prop) (L : List Lay) : Option FV → Option Value → Prop
  | none, v => v = none
  | some x, v => ∃ u, v = some u ∧ VRel w I L x u

theorem SR.evOpt (hs : SR w I L s a) {x : Option Operand} {v : Option FV} (h : Pay.evOpt s x = some v) : ORelO w I L v (x.map a.eval) := by
  cases x with
  | none => simp [Pay.evOpt] at h; subst h; rfl
  | some x =>
    simp only [Pay.evOpt, Option.map_eq_some_iff] at h
    obtain ⟨u, hu, rfl⟩ := h
    exact ⟨_, rfl, hs.evX hu⟩

theorem sliceBound_ok {k : IntKind} {n : Int} {y : Nat} {code : BoundsCode} (h0 : 0 ≤ n) (h1 : n.toNat ≤ y) : (Instr.sliceBound (.int k n) y code).run P w = .ok n.toNat w := by
  have : n ≤ (y : Int) := by omega
  simp [Instr.sliceBound, asIntOf, h0, this]

theorem bnd_some {d : Nat} {x : FV} {v : Value} {n : Nat} (hx : VRel w I L x v) (h : bnd d (some x) = some n) : ∃ k m, v = .int k m ∧ 0 ≤ m ∧ m.toNat = n := by
  unfold bnd at h
  split at h
  · rename_i he; cases he
  · rename_i k m he
    cases he
    split at h
    · rename_i h0
      cases h
      simp only [VRel, DRel] at hx
      exact ⟨k, m, hx, h0, rfl⟩
    · cases h
  · cases h

theorem sliceBounds_ok {w' : World} {isS : Bool} {len cap : Nat} {lo hi : Option FV} {vlo vhi : Option Value} {m n : Nat} (hlo : ORelO w I L lo vlo) (hhi : ORelO w I L hi vhi) (h1 : bnd 0 lo = some m) (h2 : bnd len hi = some n) (hmn : m ≤ n) (hn : n ≤ cap) :
    (Instr.sliceBounds isS len cap vlo vhi none).run P w' = .ok (m, n, cap) w' := by
  have hh : ∀ code, (match vhi with | some v => Instr.sliceBound v cap code | none => pure len : Sem Nat).run P w' = .ok n w' := by
    intro code
    cases hi with
    | none => simp only [ORelO] at hhi; subst hhi; simp [bnd] at h2; subst h2; rfl
    | some x =>
      simp only [ORelO] at hhi
      obtain ⟨u, rfl, hu⟩ := hhi
      obtain ⟨k, q, rfl, h0, rfl⟩ := bnd_some hu h2
      exact sliceBound_ok h0 hn
  have hl : ∀ code, (match vlo with | some v => Instr.sliceBound v n code | none => pure 0 : Sem Nat).run P w' = .ok m w' := by
    intro code
    cases lo with
    | none => simp only [ORelO] at hlo; subst hlo; simp [bnd] at h1; subst h1; rfl
    | some x =>
      simp only [ORelO] at hlo
      obtain ⟨u, rfl, hu⟩ := hlo
      obtain ⟨k, q, rfl, h0, rfl⟩ := bnd_some hu h1
      exact sliceBound_ok h0 hmn
  unfold Instr.sliceBounds
  have e1 := hh (if isS then .sliceAcap else .sliceAlen)
  have e2 := hl .sliceB
  cases vhi with
  | none =>
    simp only [Sem.run_pure, Result.ok.injEq, and_true] at e1
    subst e1
    cases vlo with
    | none => simp only [Sem.run_pure, Result.ok.injEq, and_true] at e2; subst e2; simp
    | some v => simp at e2; simp [e2]
  | some u =>
    simp only at e1
    cases vlo with
    | none => simp only [Sem.run_pure, Result.ok.injEq, and_true] at e2; subst e2; simp [e1]
    | some v => simp at e2; simp [e1, e2]

theorem run_sliceAt {t : TypeId} {d : TypeDesc} (hd : P.underlying t = some d) (hn : ∀ n e, d ≠ .array n e) (x : Value) (lo hi mx : Option Value) :
    (Instr.sliceAt t x lo hi mx).run P w = (Instr.slice t x lo hi mx).run P w := by
  unfold Instr.sliceAt
  simp only [Sem.run_bind, runU hd, Result.andThen_ok]

/-- A cut within an own row, as it stands. -/
theorem so_ok (hs : SR w I L s a) {id k e m n cap sz : Nat} {xs : List D} {l : Lay} {hd : Option Addr} (hS : s.S[id]? = some (.arr e k xs)) (hl : L[id]? = some l) (hh : l.hdr = some (hd, cap)) (hk : k = sz) (h1 : m ≤ n) (h2 : n ≤ cap) :
    ∃ ll hd' c, L[id]? = some ll ∧ Value.slice (if cap = m then hd else hd.map (·.add (m * sz))) (n - m) (cap - m) = .slice hd' (n - m) c ∧ n - m ≤ c ∧ (n - m = 0 ∨ ∃ b cap', ll = .a (some b) cap' ∧ hd' = some ⟨b, m * k, none⟩ ∧ cap' = m + c) := by
  refine ⟨l, _, _, hl, rfl, by omega, ?_⟩
  by_cases h0 : n - m = 0
  · exact .inl h0
  · right
    rcases hs.obs _ _ _ hS hl with ⟨base, cp, vs, rfl, hown, _⟩ | ⟨hd', rfl, _⟩
    · simp only [Lay.hdr, Option.some.injEq, Prod.mk.injEq] at hh
      obtain ⟨rfl, rfl⟩ := hh
      cases base with
      | none =>
        rcases hown.2 with ⟨h, _⟩ | ⟨g, cpp, cur, he, _⟩
        · simp [Lay.head] at h; omega
        · simp [Lay.head] at he
      | some b =>
        refine ⟨b, cp, rfl, ?_, by omega⟩
        rw [if_neg (by omega)]
        simp [Lay.head, Addr.add_lit, hk]
    · simp only [Lay.hdr, Option.some.injEq, Prod.mk.injEq] at hh
      omega

theorem evSl_ok (hT : TabOk P T) (hs : SR w I L s a) {t : TypeId} {x : FV} {lo hi : Option FV} {vx : Value} {vlo vhi : Option Value} {z : FV}
    (hx : VRel w I L x vx) (hlo : ORelO w I L lo vlo) (hhi : ORelO w I L hi vhi) (h : evSl T s t x lo hi = some z) :
    ∃ v, (∀ w' : World, (Instr.sliceAt t vx vlo vhi none).run P w' = .ok v w') ∧ VRel w I L z v := by
  unfold evSl at h
  simp only [Option.bind_eq_some_iff] at h
  obtain ⟨i, hti, h⟩ := h
  have hI := (hT _ _ hti).kind
  split at h
  · rename_i l hkd
    rw [hkd] at hI
    simp only [TKOk] at hI
    simp only [Option.bind_eq_some_iff] at h
    obtain ⟨m, hm, n, hn, h⟩ := h
    split at h
    · rename_i hc
      cases h
      simp only [VRel, DRel] at hx ⊢
      subst hx
      have hsz : (⟨l.toArray⟩ : ByteArray).size = l.length := by simp [ByteArray.size]
      have hb := fun w' => sliceBounds_ok (P := P) (w := w) (w' := w') (isS := false) (cap := l.length) hlo hhi hm hn hc.1 hc.2
      refine ⟨_, fun w' => ?_, rfl⟩
      rw [run_sliceAt hI (by intro n e h; cases h)]
      simp only [Instr.slice, Sem.run_bind, runU hI, Result.andThen_ok, hsz, hb, Option.isSome_none, Bool.false_eq_true, if_false, Sem.run_pure]
      congr 2
      rw [Lib.extract_eq]
    · cases h
  · rename_i e k xs hkd
    rw [hkd] at hI
    simp only [TKOk] at hI
    simp only [Option.bind_eq_some_iff] at h
    obtain ⟨ei, hei, h⟩ := h
    split at h
    · rename_i hk
      subst hk
      simp only [Option.bind_eq_some_iff] at h
      obtain ⟨m, hm, n, hn, h⟩ := h
      split at h
      · rename_i hc
        cases h
        simp only [VRel, DRel] at hx
        obtain ⟨base, c, rfl, hle, hx⟩ := hx
        have hb := fun w' => sliceBounds_ok (P := P) (w := w) (w' := w') (isS := true) (cap := c) hlo hhi hm hn hc.1 (by omega)
        refine ⟨.slice (if c = m then base else base.map (·.add (m * ei.size))) (n - m) (c - m), fun w' => ?_, ?_⟩
        · rw [run_sliceAt hI (by intro n e h; cases h)]
          simp only [Instr.slice, Sem.run_bind, runU hI, Result.andThen_ok, hb, (hT _ _ hei).sizeOf, Sem.run_pure]
        · simp only [VRel, DRel]
          have hlen : ((xs.drop m).take (n - m)).length = n - m := by rw [List.length_take, List.length_drop]; omega
          refine ⟨_, c - m, by rw [hlen], by omega, ?_⟩
          rcases hx with hx | ⟨b, o, vs, rfl, hb', hcc, hr⟩
          · exact .inl (by subst hx; simp)
          · by_cases hmn : m = n
            · exact .inl (by subst hmn; simp)
            · refine .inr ⟨b, o + m * ei.size, (vs.drop (m * ei.size)).take ((n - m) * ei.size), ?_, hb', cellsAt_take (cellsAt_drop hcc _) _, (hr.drop m).take (n - m)⟩
              rw [if_neg (by omega)]
              simp [Addr.add_lit]
      · cases h
    · cases h
  · rename_i e id n0 hkd
    rw [hkd] at hI
    simp only [TKOk] at hI
    simp only [Option.bind_eq_some_iff] at h
    obtain ⟨ei, hei, m, hm, n, hn, h⟩ := h
    split at h
    · rename_i e' k xs hS
      split at h
      · rename_i hc
        obtain ⟨hc0, hc1, hc2⟩ := hc
        simp only [VRel] at hx
        obtain ⟨ll, hd, cap, hl, hh, rfl⟩ := hx
        have hcap := (sl_cap hs hS hl hh).1
        have hb := fun w' => sliceBounds_ok (P := P) (w := w) (w' := w') (isS := true) (cap := cap) hlo hhi hm hn hc0 (by omega)
        split at h
        · cases h
          simp only [bnd, Option.some.injEq] at hm
          subst hm
          simp only [VRel]
          refine ⟨_, fun w' => ?_, ll, hd, cap, hl, hh, rfl⟩
          rw [run_sliceAt hI (by intro n e h; cases h)]
          simp only [Instr.slice, Sem.run_bind, runU hI, Result.andThen_ok, hb, (hT _ _ hei).sizeOf, Sem.run_pure, Nat.zero_mul, Nat.sub_zero]
          congr 2
          cases hd <;> simp [Addr.add_zero']
        · split at h
          · rename_i hk
            cases h
            simp only [VRel]
            refine ⟨_, fun w' => ?_, so_ok hs hS hl hh hk hc0 (by omega)⟩
            rw [run_sliceAt hI (by intro n e h; cases h)]
            simp only [Instr.slice, Sem.run_bind, runU hI, Result.andThen_ok, hb, (hT _ _ hei).sizeOf, Sem.run_pure]
          · cases h
      · cases h
    · cases h
  · rename_i e id n0 cap hkd
    rw [hkd] at hI
    simp only [TKOk] at hI
    simp only [Option.bind_eq_some_iff] at h
    obtain ⟨ei, hei, m, hm, n, hn, h⟩ := h
    split at h
    · rename_i e' k xs hS
      split at h
      · rename_i hc
        obtain ⟨hc0, hc1⟩ := hc
        simp only [VRel] at hx
        obtain ⟨ll, hd, hl, hh, rfl⟩ := hx
        have hb := fun w' => sliceBounds_ok (P := P) (w := w) (w' := w') (isS := true) (cap := cap) hlo hhi hm hn hc0 hc1
        split at h
        · cases h
          simp only [bnd, Option.some.injEq] at hm
          subst hm
          simp only [VRel]
          refine ⟨_, fun w' => ?_, ll, hd, hl, hh, rfl⟩
          rw [run_sliceAt hI (by intro n e h; cases h)]
          simp only [Instr.slice, Sem.run_bind, runU hI, Result.andThen_ok, hb, (hT _ _ hei).sizeOf, Sem.run_pure, Nat.zero_mul, Nat.sub_zero]
          congr 2
          cases hd <;> simp [Addr.add_zero']
        · split at h
          · rename_i hk
            cases h
            simp only [VRel]
            refine ⟨_, fun w' => ?_, so_ok hs hS hl hh hk hc0 hc1⟩
            rw [run_sliceAt hI (by intro n e h; cases h)]
            simp only [Instr.slice, Sem.run_bind, runU hI, Result.andThen_ok, hb, (hT _ _ hei).sizeOf, Sem.run_pure]
          · cases h
      · cases h
    · cases h
  · cases h

theorem u8s_ok : ∀ {xs : List D} {vs : List Value} {l : List UInt8}, DRelR w I 1 xs vs → u8s xs = some l → vs.length = l.length ∧ ∀ (j : Nat) (b : UInt8), l[j]? = some b → ∃ n, vs[j]? = some (.int .u8 n) ∧ b = UInt8.ofNat n.toNat
  | [], vs, l, h, hl => by simp only [DRelR] at h; subst h; simp [u8s] at hl; subst hl; simp
  | x :: xs, vs, l, h, hl => by
    simp only [DRelR] at h
    obtain ⟨v, r, rfl, hk, h1, h2⟩ := h
    unfold u8s at hl
    split at hl
    · rename_i he; cases he
    · rename_i n q he
      cases he
      simp only [Option.map_eq_some_iff] at hl
      obtain ⟨l', hl', rfl⟩ := hl
      simp only [DRel] at h1
      subst h1
      obtain ⟨e1, e2⟩ := u8s_ok h2 hl'
      refine ⟨by simp [Value.cells, e1], fun j b hb => ?_⟩
      cases j with
      | zero => simp at hb; subst hb; exact ⟨n, by simp [Value.cells], rfl⟩
      | succ j => simpa [Value.cells] using e2 j b (by simpa using hb)
    · cases hl

theorem pushBytes {f : Value → ByteArray → Sem (ForInStep ByteArray)} (hf : ∀ n s, (f (.int .u8 n) s).run P w = .ok (.yield (s.push (UInt8.ofNat n.toNat))) w) :
    ∀ (vs : List Value) (l : List UInt8) (acc : ByteArray), vs.length = l.length → (∀ (j : Nat) (b : UInt8), l[j]? = some b → ∃ n, vs[j]? = some (.int .u8 n) ∧ b = UInt8.ofNat n.toNat) →
    (forIn (m := Sem) vs acc f).run P w = .ok ⟨acc.data ++ l.toArray⟩ w
  | [], l, acc, hlen, _ => by
    have : l = [] := List.eq_nil_of_length_eq_zero (by simpa using hlen.symm)
    subst this
    simp
  | v :: r, [], acc, hlen, _ => by simp at hlen
  | v :: r, b :: l, acc, hlen, h => by
    obtain ⟨n, hv, hb⟩ := h 0 b rfl
    simp at hv
    subst hv
    have ih := pushBytes hf r l (acc.push (UInt8.ofNat n.toNat)) (by simpa using hlen) (fun j b hb => by simpa using h (j + 1) b (by simpa using hb))
    simp only [List.forIn_cons, Sem.run_bind, hf, Result.andThen_ok, ih]
    congr 2
    subst hb
    simp [ByteArray.push]

theorem run_bytesToString {b o : Nat} {vs : List Value} {l : List UInt8} {cap : Nat} (hc : CellsAt w b o vs) (hlen : vs.length = l.length)
    (h : ∀ (j : Nat) (c : UInt8), l[j]? = some c → ∃ n, vs[j]? = some (.int .u8 n) ∧ c = UInt8.ofNat n.toNat) :
    (Conv.bytesToString (.slice (some ⟨b, o, none⟩) l.length cap)).run P w = .ok (.string ⟨l.toArray⟩) w := by
  have hr := run_loadCells_list (P := P) w ⟨b, o, none⟩ vs (fun j v hv => by have := hc j v hv; simpa [Addr.add_lit] using this)
  rw [hlen] at hr
  simp only [Conv.bytesToString, Sem.run_bind, hr, Result.andThen_ok]
  rw [← Array.forIn_toList]
  rw [pushBytes (P := P) (w := w) (fun n s => by simp) vs l _ hlen h]
  simp [ByteArray.empty, ByteArray.emptyWithCapacity]
  rfl

theorem evCv_ok (hT : TabOk P T) (hs : SR w I L s a) {src dst : TypeId} {x : FV} {vx : Value} {z : FV} (hx : VRel w I L x vx) (h : evCv T s src dst x = some z) :
    ∃ v, (∀ w' : World, Agree w w' I (owns s.S L) → (convert src dst vx).run P w' = .ok v w') ∧ VRel w I L z v := by
  unfold evCv at h
  simp only [Option.bind_eq_some_iff] at h
  obtain ⟨i, hi, j, hj, h⟩ := h
  have hI := (hT _ _ hi).kind
  have hJ := (hT _ _ hj).kind
  have hsrc : ∃ d, P.underlying src = some d := by
    cases hkd : i.kind <;> rw [hkd] at hI <;> simp only [TKOk] at hI
    case struct => obtain ⟨f, hf, _⟩ := hI; exact ⟨_, hf⟩
    case iface => obtain ⟨f, hf⟩ := hI; exact ⟨_, hf⟩
    case other => obtain ⟨d, hd, _⟩ := hI; exact ⟨_, hd⟩
    all_goals exact ⟨_, hI⟩
  obtain ⟨ds, hds⟩ := hsrc
  split at h
  · rename_i k k' n hkd
    rw [hkd] at hJ; simp only [TKOk] at hJ
    cases h
    simp only [VRel, DRel] at hx ⊢
    subst hx
    exact ⟨_, fun w' hg => by simp [convert, runU hds, runU hJ, Conv.intToInt], rfl⟩
  · rename_i k k' n hkd
    rw [hkd] at hJ; simp only [TKOk] at hJ
    cases h
    simp only [VRel, DRel] at hx ⊢
    subst hx
    exact ⟨_, fun w' hg => by simp [convert, runU hds, runU hJ, Conv.intToFloat], rfl⟩
  · rename_i k f b hkd
    rw [hkd] at hJ; simp only [TKOk] at hJ
    simp only [VRel, DRel] at hx
    subst hx
    split at h
    · rename_i n hn
      split at h
      · rename_i hc
        cases h
        simp only [VRel, DRel]
        exact ⟨_, fun w' hg => by simp [convert, runU hds, runU hJ, Conv.floatToInt, hn, hc], rfl⟩
      · cases h
    · cases h
  · rename_i l hkd
    rw [hkd] at hJ; simp only [TKOk] at hJ
    split at h
    · rename_i hki
      rw [hki] at hI; simp only [TKOk] at hI
      cases h
      simp only [VRel, DRel] at hx ⊢
      subst hx
      exact ⟨_, fun w' hg => by simp [convert, runU hI, runU hJ], rfl⟩
    · cases h
  · rename_i k xs hkd
    rw [hkd] at hJ; simp only [TKOk] at hJ
    split at h
    · rename_i e hki
      rw [hki] at hI; simp only [TKOk] at hI
      split at h
      · rename_i e1 e2 e3 hte
        have hE := (hT _ _ hte).kind
        simp only [TKOk] at hE
        split at h
        · rename_i hk; subst hk
          simp only [Option.map_eq_some_iff] at h
          obtain ⟨l, hl, rfl⟩ := h
          simp only [VRel, DRel] at hx ⊢
          obtain ⟨base, c, rfl, _, hx⟩ := hx
          refine ⟨_, fun w' hg => ?_, rfl⟩
          rcases hx with hx | ⟨b, o, vs, rfl, hIb, hc, hr⟩
          · subst hx
            simp [u8s] at hl; subst hl
            cases base with
            | none => simp [convert, runU hI, runU hJ, runU hE, Conv.bytesToString]; rfl
            | some ad => simp [convert, runU hI, runU hJ, runU hE, Conv.bytesToString, loadCells, loadCellsFrom]; rfl
          · obtain ⟨hlen, hb⟩ := u8s_ok hr hl
            have hlx : xs.length = l.length := by have := hr.length; omega
            have := run_bytesToString (P := P) (cap := c) (cellsAt_of_block (hg b (.inl hIb)) hc) hlen hb
            rw [← hlx] at this
            simp [convert, runU hI, runU hJ, runU hE, this]
        · cases h
      · cases h
    · cases h
  · rename_i id n hkd
    rw [hkd] at hJ; simp only [TKOk] at hJ
    split at h
    · rename_i e hki
      rw [hki] at hI; simp only [TKOk] at hI
      split at h
      · rename_i e1 e2 e3 hte
        have hE := (hT _ _ hte).kind
        simp only [TKOk] at hE
        split at h
        · rename_i e' k xs hS
          split at h
          · rename_i hk
            obtain ⟨rfl, rfl⟩ := hk
            simp only [Option.map_eq_some_iff] at h
            obtain ⟨l, hl, rfl⟩ := h
            simp only [VRel, DRel] at hx ⊢
            obtain ⟨ll, hd, cap, hL, hh, rfl⟩ := hx
            refine ⟨_, fun w' hg => ?_, rfl⟩
            have emp : ∀ l' : List UInt8, l' = [] → xs = [] → (convert src dst (.slice hd xs.length cap)).run P w' = .ok (.string ⟨l'.toArray⟩) w' := by
              intro l' e1 e2
              subst e1; subst e2
              cases hd with
              | none => simp [convert, runU hI, runU hJ, runU hE, Conv.bytesToString]; rfl
              | some ad => simp [convert, runU hI, runU hJ, runU hE, Conv.bytesToString, loadCells, loadCellsFrom]; rfl
            rcases hs.obs _ _ _ hS hL with ⟨base', cp, vs, he, hown, hr⟩ | ⟨hd', rfl, rfl⟩
            rotate_left
            · simp [u8s] at hl; exact emp _ hl rfl
            cases he
            simp only [Lay.hdr, Option.some.injEq, Prod.mk.injEq] at hh
            obtain ⟨rfl, rfl⟩ := hh
            obtain ⟨hlen, hb⟩ := u8s_ok hr hl
            have hlx : xs.length = l.length := by have := hr.length; omega
            by_cases h0 : 0 < vs.length
            · obtain ⟨b, rfl, hc⟩ := ownsRow_cells hown h0
              have := run_bytesToString (P := P) (cap := cp) (cellsAt_of_block (hg b (.inr (owns_mem hS hL b (by simp [own])))) hc) hlen hb
              rw [← hlx] at this
              simp [convert, runU hI, runU hJ, runU hE, Lay.head, this]
            · exact emp _ (List.eq_nil_of_length_eq_zero (by omega)) (List.eq_nil_of_length_eq_zero (by omega))
          · cases h
        · cases h
      · cases h
    · cases h
  · cases h

theorem evUn_ok {op : UnOp} {x : FV} {vx : Value} {z : FV} (hx : VRel w I L x vx) (h : evUn op x = some z) : ∃ v, (∀ w' : World, (Op.unary op vx).run P w' = .ok v w') ∧ VRel w I L z v := by
  unfold evUn at h
  split at h
  · cases h; simp only [VRel, DRel] at hx ⊢; subst hx; exact ⟨_, fun _ => by simp [Op.unary, Op.intArith], rfl⟩
  · cases h; simp only [VRel, DRel] at hx ⊢; subst hx; exact ⟨_, fun _ => by simp [Op.unary], rfl⟩
  · cases h

theorem SR.evXs (hs : SR w I L s a) : ∀ {xs : List Operand} {vs : List FV}, Pay.evXs s xs = some vs → VRelL w I L vs (xs.map a.eval)
  | [], vs, h => by simp [Pay.evXs] at h; subst h; simp [VRelL]
  | x :: r, vs, h => by
    simp only [Pay.evXs, Option.bind_eq_some_iff, Option.map_eq_some_iff] at h
    obtain ⟨v, hv, us, hu, rfl⟩ := h
    simp only [List.map_cons, VRelL]
    exact ⟨_, _, rfl, hs.evX hv, hs.evXs hu⟩

theorem mxI_ok {w' : World} {k : IntKind} : ∀ {r : List FV} {vs : List Value} {x n : Int}, VRelL w I L r vs → mxI k x r = some n → (vs.foldlM Builtin.max2 (.int k x)).run P w' = .ok (.int k n) w'
  | [], vs, x, n, h, hn => by simp only [VRelL] at h; subst h; simp [mxI] at hn; subst hn; rfl
  | c :: r, vs, x, n, h, hn => by
    simp only [VRelL] at h
    obtain ⟨v, q, rfl, h1, h2⟩ := h
    unfold mxI at hn
    split at hn
    · rename_i he; cases he
    · rename_i k' y r' he
      cases he
      split at hn
      · rename_i hk; subst hk
        simp only [VRel, DRel] at h1
        subst h1
        simp only [List.foldlM_cons, Builtin.max2, Sem.run_bind, Sem.run_pure, Result.andThen_ok]
        rw [show (if y > x then y else x) = max x y from by split <;> omega]
        exact mxI_ok h2 hn
      · cases hn
    · cases hn
theorem mnI_ok {w' : World} {k : IntKind} : ∀ {r : List FV} {vs : List Value} {x n : Int}, VRelL w I L r vs → mnI k x r = some n → (vs.foldlM Builtin.min2 (.int k x)).run P w' = .ok (.int k n) w'
  | [], vs, x, n, h, hn => by simp only [VRelL] at h; subst h; simp [mnI] at hn; subst hn; rfl
  | c :: r, vs, x, n, h, hn => by
    simp only [VRelL] at h
    obtain ⟨v, q, rfl, h1, h2⟩ := h
    unfold mnI at hn
    split at hn
    · rename_i he; cases he
    · rename_i k' y r' he
      cases he
      split at hn
      · rename_i hk; subst hk
        simp only [VRel, DRel] at h1
        subst h1
        simp only [List.foldlM_cons, Builtin.min2, Sem.run_bind, Sem.run_pure, Result.andThen_ok]
        rw [show (if y < x then y else x) = min x y from by split <;> omega]
        exact mnI_ok h2 hn
      · cases hn
    · cases hn

theorem evBu_ok (hT : TabOk P T) {b : Builtin} {ts : Array TypeId} {ty : TypeId} {cs : Array Bool} {args : List FV} {vs : List Value} {z : FV} (hx : VRelL w I L args vs) (h : evBu T s b ts args = some z) :
    ∃ v, (∀ w' : World, (builtin b ts ty cs vs.toArray).run P w' = .ok (.value v) w') ∧ VRel w I L z v := by
  unfold evBu at h
  split at h
  · rename_i x
    simp only [VRelL] at hx
    obtain ⟨vx, r, rfl, hx, rfl⟩ := hx
    simp only [Option.bind_eq_some_iff] at h
    obtain ⟨t, ht, i, hti, h⟩ := h
    have hI := (hT _ _ hti).kind
    split at h
    · rename_i l hkd
      rw [hkd] at hI; simp only [TKOk] at hI
      simp [lenV] at h; subst h
      simp only [VRel, DRel] at hx ⊢
      subst hx
      have hsz : (⟨l.toArray⟩ : ByteArray).size = l.length := by simp [ByteArray.size]
      refine ⟨_, fun _ => ?_, rfl⟩
      simp only [builtin, Builtin.len_, List.getElem?_toArray, List.getElem?_cons_zero, ht, runU hI, goInt, Sem.run_bind, Sem.run_pure, Result.andThen_ok, hsz]
    · rename_i e k xs hkd
      rw [hkd] at hI; simp only [TKOk] at hI
      simp [lenV] at h; subst h
      simp only [VRel, DRel] at hx ⊢
      obtain ⟨base, c, rfl, _, _⟩ := hx
      exact ⟨_, fun _ => by simp [builtin, Builtin.len_, ht, runU hI, goInt], rfl⟩
    · rename_i e hkd
      rw [hkd] at hI; simp only [TKOk] at hI
      simp [lenV] at h; subst h
      simp only [VRel, DRel] at hx ⊢
      subst hx
      exact ⟨_, fun _ => by simp [builtin, Builtin.len_, ht, runU hI, goInt], rfl⟩
    · rename_i e id n hkd
      rw [hkd] at hI; simp only [TKOk] at hI
      simp [lenV] at h; subst h
      simp only [VRel, DRel] at hx ⊢
      obtain ⟨ll, base, c, _, _, rfl⟩ := hx
      exact ⟨_, fun _ => by simp [builtin, Builtin.len_, ht, runU hI, goInt], rfl⟩
    · rename_i e id k off n hkd
      rw [hkd] at hI; simp only [TKOk] at hI
      simp [lenV] at h; subst h
      simp only [VRel, DRel] at hx ⊢
      obtain ⟨ll, base, c, _, rfl, _⟩ := hx
      exact ⟨_, fun _ => by simp [builtin, Builtin.len_, ht, runU hI, goInt], rfl⟩
    · rename_i n e hkd
      rw [hkd] at hI; simp only [TKOk] at hI
      cases h
      simp only [VRel, DRel]
      refine ⟨_, fun _ => ?_, rfl⟩
      simp [builtin, Builtin.len_, ht, runU hI, goInt]
    · cases h
  · rename_i id n c
    simp only [VRelL] at hx
    obtain ⟨vx, r, rfl, hx, rfl⟩ := hx
    simp only [Option.bind_eq_some_iff] at h
    obtain ⟨t, ht, i, hti, h⟩ := h
    have hI := (hT _ _ hti).kind
    split at h
    · rename_i e hkd
      rw [hkd] at hI; simp only [TKOk] at hI
      cases h
      simp only [VRel, DRel] at hx ⊢
      obtain ⟨ll, base, _, _, rfl⟩ := hx
      exact ⟨_, fun _ => by simp [builtin, Builtin.cap_, ht, runU hI, goInt], rfl⟩
    · cases h
  · rename_i k x r
    simp only [VRelL] at hx
    obtain ⟨vx, q, rfl, hx, h2⟩ := hx
    simp only [VRel, DRel] at hx
    subst hx
    simp only [Option.map_eq_some_iff] at h
    obtain ⟨n, hn, rfl⟩ := h
    exact ⟨.int k n, fun _ => by simp [builtin, Builtin.max_, mxI_ok h2 hn], by simp only [VRel, DRel]⟩
  · rename_i k x r
    simp only [VRelL] at hx
    obtain ⟨vx, q, rfl, hx, h2⟩ := hx
    simp only [VRel, DRel] at hx
    subst hx
    simp only [Option.map_eq_some_iff] at h
    obtain ⟨n, hn, rfl⟩ := h
    exact ⟨.int k n, fun _ => by simp [builtin, Builtin.min_, mnI_ok h2 hn], by simp only [VRel, DRel]⟩
  · simp only [VRelL] at hx
    obtain ⟨vx, q, rfl, hx, rfl⟩ := hx
    simp only [VRel, DRel] at hx
    subst hx
    cases h
    exact ⟨_, fun _ => rfl, by simp only [VRel, DRel]⟩
  · simp only [VRelL] at hx
    obtain ⟨vx, q, rfl, hx, rfl⟩ := hx
    simp only [VRel, DRel] at hx
    subst hx
    cases h
    exact ⟨_, fun _ => rfl, by simp only [VRel, DRel]⟩
  · simp only [VRelL] at hx
    obtain ⟨vx, q, rfl, hx, vy, q', rfl, hy, rfl⟩ := hx
    simp only [VRel, DRel] at hx hy
    subst hx; subst hy
    split at h
    · rename_i hk; subst hk
      cases h
      rename_i k m n
      have : Builtin.complex_ ts ty #[.float k m, .float k n] = pure (.complex k m n) := by
        show (if k = k then _ else _) = _
        rw [if_pos rfl]
      exact ⟨.complex k m n, fun _ => by simp only [builtin, this]; rfl, by simp only [VRel, DRel]⟩
    · cases h
  · cases h

end
end Go.Proofs.YtjlamhilnkadcaaGreatDoor.Pay
