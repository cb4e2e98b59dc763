/- Regions that draw their order, over abstract data: one walk in text order serves every order, if a test on what the operations touch holds. No statement of the seed is proved here. -/
import Derived.Test.YtjlamhilnkadcaaGreatDoorPayO
import Derived.OrdersHeld
namespace Go.Proofs.YtjlamhilnkadcaaGreatDoor.Pay
open Go Go.RowKit
set_option linter.unusedSimpArgs false
set_option linter.unusedVariables false

/-! ### What an operation looks at -/
/-- A slot is set. -/
def putE (d : Option Nat) (v : FV) (env : List (Nat × FV)) : List (Nat × FV) := match d with
  | none => env
  | some d => (d, v) :: env
def gotE (d : Option Nat) (env : List (Nat × FV)) : FV := match d with
  | none => .tup []
  | some d => (get env d).getD (.tup [])
mutual
def fids : FV → List Nat
  | .ref id _ => [id]
  | .sl id _ => [id]
  | .er id _ _ _ => [id]
  | .mp id => [id]
  | .so id _ _ _ => [id]
  | .sc id _ _ => [id]
  | .agg cs => fidss cs
  | .fn _ cs => fidss cs
  | .tup cs => fidss cs
  | _ => []
def fidss : List FV → List Nat
  | [] => []
  | x :: r => fids x ++ fidss r
end
def oids : Ob → List Nat
  | .cells _ cs => fidss cs
  | _ => []

def tmpsOf : List Operand → List Nat
  | [] => []
  | .tmp t :: r => t :: tmpsOf r
  | _ :: r => tmpsOf r
def looks (all : Array Oper) (o : Oper) : List Nat := tmpsOf o.op.operands.toList ++ (match o.guard with | none => [] | some (j, _) => ((all[j]?).bind (·.dst)).toList)

def mskE (env : List (Nat × FV)) : List Nat → List (Nat × FV)
  | [] => []
  | t :: r => match get env t with
    | some x => (t, x) :: mskE env r
    | none => mskE env r
def mskS (rd : List Nat) : Nat → List Ob → List Ob
  | _, [] => []
  | i, o :: r => (if i ∈ rd then o else .gone) :: mskS rd (i + 1) r

theorem mskE_get {env : List (Nat × FV)} : ∀ {ts : List Nat} {t : Nat} {x : FV}, get (mskE env ts) t = some x → get env t = some x
  | [], t, x, h => by simp [mskE, get] at h
  | k :: r, t, x, h => by
    unfold mskE at h
    split at h
    · rename_i y hy
      simp only [get] at h
      by_cases hk : k = t
      · rw [if_pos hk] at h; cases h; subst hk; exact hy
      · rw [if_neg hk] at h; exact mskE_get h
    · exact mskE_get h
theorem mskE_congr {e1 e2 : List (Nat × FV)} : ∀ {ts : List Nat}, (∀ t ∈ ts, get e1 t = get e2 t) → mskE e1 ts = mskE e2 ts
  | [], _ => rfl
  | k :: r, h => by
    unfold mskE
    rw [h k (by simp), mskE_congr (ts := r) fun t ht => h t (by simp [ht])]
theorem mskS_len {rd : List Nat} : ∀ {i : Nat} {S : List Ob}, (mskS rd i S).length = S.length
  | _, [] => rfl
  | i, o :: r => by simp [mskS, mskS_len]
theorem mskS_get {rd : List Nat} : ∀ {i j : Nat} {S : List Ob}, (mskS rd i S)[j]? = (S[j]?).map fun o => if i + j ∈ rd then o else .gone
  | i, j, [] => by simp [mskS]
  | _, 0, o :: r => by simp [mskS]
  | i, j + 1, o :: r => by simp only [mskS, List.getElem?_cons_succ]; rw [mskS_get, Nat.add_assoc, Nat.add_comm 1 j]
theorem mskS_congr {rd : List Nat} {S S' : List Ob} (hl : S.length = S'.length) (h : ∀ j ∈ rd, S[j]? = S'[j]?) : mskS rd 0 S = mskS rd 0 S' := by
  apply List.ext_getElem?
  intro j
  rw [mskS_get, mskS_get, Nat.zero_add]
  by_cases hj : j ∈ rd
  · rw [h j hj]
  · simp only [if_neg hj]
    by_cases hlt : j < S.length
    · rw [List.getElem?_eq_getElem hlt, List.getElem?_eq_getElem (hl ▸ hlt)]; rfl
    · rw [List.getElem?_eq_none (by omega), List.getElem?_eq_none (by omega)]

/-- What an operation sees. -/
def msk (s : St) (ts rd : List Nat) : St := ⟨mskE s.env ts, mskS rd 0 s.S, s.nt, s.S.length⟩

def ownsOf (S : List Ob) (L : List Lay) : List Nat := owns S L

section
variable {P : Program} {T : Nat → Option TI} {w w' : World} {I I' : Nat → Prop} {L L' : List Lay} {s s' s1 s2 : St} {a : Act} {all ops : Array Oper} {o : Oper} {rest : List Oper} {Q : Exit → St → Prop} {c : Code} {md : Region.Mode}

theorem owns_msk {rd : List Nat} : ∀ {i : Nat} {S : List Ob} {L : List Lay}, (owns (mskS rd i S) L).Sublist (owns S L)
  | _, [], L => by simp [mskS, owns]
  | i, o :: r, [] => by simp [mskS, owns]
  | i, o :: r, l :: L => by
    simp only [mskS, owns]
    split
    · exact (List.Sublist.refl _).append owns_msk
    · exact (List.nil_sublist _).append owns_msk

theorem SR.msk (hs : SR w I L s a) (ts rd : List Nat) : SR w I L (Pay.msk s ts rd) a := by
  have hsub := owns_msk (rd := rd) (i := 0) (S := s.S) (L := L)
  refine ⟨fun t x hx => hs.env t x (mskE_get hx), hs.nt, by simp [Pay.msk, mskS_len, hs.len], fun i o l h1 h2 => ?_, hsub.nodup hs.nodup, fun b hb => hs.sep b (hsub.subset hb), hs.imm, hs.defers⟩
  simp only [Pay.msk, mskS_get, Option.map_eq_some_iff, Nat.zero_add] at h1
  obtain ⟨o', ho', h1⟩ := h1
  split at h1
  · subst h1; exact hs.obs i _ l ho' h2
  · subst h1; trivial

/-- What is put back: the objects that the operation did not see. -/
def bakS (wr : List Nat) : Nat → List Ob → List Ob → List Ob
  | _, [], S1 => S1
  | i, o :: r, [] => o :: r
  | i, o :: r, o1 :: S1 => (if i ∈ wr then o1 else o) :: bakS wr (i + 1) r S1

theorem bakS_get {wr : List Nat} : ∀ {i j : Nat} {S S1 : List Ob}, S.length ≤ S1.length → (bakS wr i S S1)[j]? = if j < S.length ∧ ¬ (i + j ∈ wr) then S[j]? else S1[j]?
  | i, j, [], S1, _ => by simp [bakS]
  | i, j, o :: r, [], h => by simp at h
  | i, 0, o :: r, o1 :: S1, h => by
    simp only [bakS]
    by_cases hi : i ∈ wr <;> simp [hi]
  | i, j + 1, o :: r, o1 :: S1, h => by
    simp only [bakS, List.getElem?_cons_succ, List.length_cons]
    rw [bakS_get (by simpa using h), Nat.add_assoc, Nat.add_comm 1 j]
    simp
theorem bakS_len {wr : List Nat} : ∀ {i : Nat} {S S1 : List Ob}, S.length ≤ S1.length → (bakS wr i S S1).length = S1.length
  | _, [], S1, _ => rfl
  | i, o :: r, [], h => by simp at h
  | i, o :: r, o1 :: S1, h => by simp only [bakS, List.length_cons]; rw [bakS_len (by simpa using h)]

/-- The frame: an operation that sees a part of the state leaves the rest as it is. -/
theorem OpOk.frame {ts rd wr : List Nat} (h : OpOk P o (Pay.msk s ts rd) s1) (hp : s.pin ≤ s.S.length) (hlen : s.S.length ≤ s1.S.length) (hnt : s1.nt = s.nt)
    (hkeep : ∀ i, i < s.S.length → i ∉ wr → s1.S[i]? = (mskS rd 0 s.S)[i]?) {v : FV} (hdst : ∀ d, o.dst = some d → get s1.env d = some v ∧ d < s.nt) :
    OpOk P o s ⟨putE o.dst v s.env, bakS wr 0 s.S s1.S, s.nt, s.pin⟩ := fun w I L a hs => by
  obtain ⟨r, w', I', L', u, hr, hv, h1, h2⟩ := h w I L a (hs.msk ts rd)
  have hsub1 := owns_msk (rd := rd) (i := 0) (S := s.S) (L := L)
  have hI : ∀ b, I b → w'.heap[b]? = w.heap[b]? := fun b hb => h2.evo.keep b (hs.imm b hb) fun h' => (hs.sep b (hsub1.subset h')).1 hb
  have hLe : ∀ i : Nat, i < s.S.length → L'[i]? = L[i]? := h2.lay
  have hL : ∀ (i : Nat) (l : Lay), L[i]? = some l → L'[i]? = some l := fun i l hl => (hLe i (by rw [← hs.len]; exact (List.getElem?_eq_some_iff.1 hl).1)).trans hl
  -- blocks of what was not seen
  have hfar : ∀ (i : Nat) (ob : Ob) (l : Lay), s.S[i]? = some ob → L[i]? = some l → i ∉ rd → ∀ b ∈ own ob l, b ∉ owns (mskS rd 0 s.S) L := by
    intro i ob l e1 e2 hi b hb hb'
    obtain ⟨j, o', l', q1, q2, q3⟩ := owns_of_mem hb'
    rw [mskS_get, Option.map_eq_some_iff, Nat.zero_add] at q1
    obtain ⟨o'', q4, q5⟩ := q1
    split at q5
    · rename_i hj
      subst q5
      exact owns_apart hs.nodup e1 e2 q4 q2 (fun e => hi (e ▸ hj)) b hb q3
    · subst q5; simp [own] at q3
  have hback : ∀ (i : Nat) (ob : Ob), (bakS wr 0 s.S s1.S)[i]? = some ob → (i ∉ rd ∧ s.S[i]? = some ob) ∨ s1.S[i]? = some ob := by
    intro i ob hi
    rw [bakS_get hlen, Nat.zero_add] at hi
    split at hi
    · rename_i hc
      by_cases hrd : i ∈ rd
      · right
        rw [hkeep i hc.1 hc.2, mskS_get, Nat.zero_add, hi]
        simp [hrd]
      · exact .inl ⟨hrd, hi⟩
    · exact .inr hi
  have hnew : ∀ b ∈ owns s1.S L', b ∈ owns (mskS rd 0 s.S) L ∨ w.heap.size ≤ b := h2.evo.own
  have hlenL : L'.length = s1.S.length := h1.len
  have hcase : ∀ (i : Nat) (ob : Ob) (l : Lay), (bakS wr 0 s.S s1.S)[i]? = some ob → L'[i]? = some l → (i ∉ rd ∧ s.S[i]? = some ob ∧ L[i]? = some l) ∨ s1.S[i]? = some ob := by
    intro i ob l e1 e2
    rcases hback i ob e1 with ⟨q1, q2⟩ | q
    · exact .inl ⟨q1, q2, by rw [← hLe i (List.getElem?_eq_some_iff.1 q2).1]; exact e2⟩
    · exact .inr q
  have hfar2 : ∀ (i : Nat) (ob : Ob) (l : Lay), i ∉ rd → s.S[i]? = some ob → L[i]? = some l → ∀ b ∈ own ob l, b < w.heap.size ∧ b ∉ owns s1.S L' := by
    intro i ob l q1 q2 q3 b hb
    have hlt := (hs.sep b (owns_mem q2 q3 b hb)).2
    refine ⟨hlt, fun h' => ?_⟩
    rcases hnew b h' with h' | h'
    · exact hfar i ob l q2 q3 q1 b hb h'
    · omega
  refine ⟨r, w', I', L', u, hr, hv, ⟨fun t x hx => ?_, ?_, ?_, fun i ob l e1 e2 => ?_, ?_, fun b hb => ?_, h1.imm, h1.defers⟩, ⟨⟨h2.evo.os, h2.evo.tape, h2.evo.output, h2.evo.size, fun b hb hA => ?_, h2.evo.imm, fun b hb => ?_, fun b hb => ?_⟩, rfl, fun i hi => hLe i (Nat.lt_of_lt_of_le hi hp)⟩⟩
  · cases hd : o.dst with
    | none =>
      simp only [Act.put]
      simp only [hd, putE] at hx
      exact VRel.mono hI h2.evo.imm hL _ _ (hs.env t x hx)
    | some d =>
      simp only [hd, putE, get] at hx
      by_cases hdt : d = t
      · rw [if_pos hdt] at hx
        cases hx; subst hdt
        have := h1.env d v (hdst d hd).1
        rwa [hd] at this
      · rw [if_neg hdt] at hx
        have h0 := VRel.mono hI h2.evo.imm hL _ _ (hs.env t x hx)
        simp only [Act.put, Array.getD_eq_getD_getElem?, Array.getElem?_setIfInBounds, if_neg hdt]
        simpa only [Array.getD_eq_getD_getElem?] using h0
  · exact h1.nt.trans hnt
  · show L'.length = (bakS wr 0 s.S s1.S).length
    rw [bakS_len hlen]; exact hlenL
  · rcases hcase i ob l e1 e2 with ⟨q1, q2, q3⟩ | q
    · refine ORel.mono hI h2.evo.imm hL (fun b hb => ?_) (hs.obs i ob l q2 q3)
      exact h2.evo.keep b (hfar2 i ob l q1 q2 q3 b hb).1 (hfar i ob l q2 q3 q1 b hb)
    · exact h1.obs i ob l q e2
  · refine owns_nodup fun i j o1 o2 l1 l2 hij e1 e2 e3 e4 b hb hb' => ?_
    rcases hcase i o1 l1 e1 e2 with ⟨q1, q2, q3⟩ | q <;> rcases hcase j o2 l2 e3 e4 with ⟨r1, r2, r3⟩ | r'
    · exact owns_apart hs.nodup q2 q3 r2 r3 hij b hb hb'
    · exact (hfar2 i o1 l1 q1 q2 q3 b hb).2 (owns_mem r' e4 b hb')
    · exact (hfar2 j o2 l2 r1 r2 r3 b hb').2 (owns_mem q e2 b hb)
    · exact owns_apart h1.nodup q e2 r' e4 hij b hb hb'
  · obtain ⟨i, ob, l, e1, e2, e3⟩ := owns_of_mem hb
    rcases hcase i ob l e1 e2 with ⟨q1, q2, q3⟩ | q
    · obtain ⟨g1, g2⟩ := hs.sep b (owns_mem q2 q3 b e3)
      refine ⟨fun hb' => ?_, Nat.lt_of_lt_of_le g2 h2.evo.size⟩
      rcases h2.evo.immNew b hb' with h' | h' | h'
      · exact g1 h'
      · exact hfar i ob l q2 q3 q1 b e3 h'
      · omega
    · exact h1.sep b (owns_mem q e2 b e3)
  · exact h2.evo.keep b hb fun h' => hA (hsub1.subset h')
  · rcases h2.evo.immNew b hb with h' | h' | h'
    · exact .inl h'
    · exact .inr (.inl (hsub1.subset h'))
    · exact .inr (.inr h')
  · obtain ⟨i, ob, l, e1, e2, e3⟩ := owns_of_mem hb
    rcases hcase i ob l e1 e2 with ⟨q1, q2, q3⟩ | q
    · exact .inl (owns_mem q2 q3 b e3)
    · rcases hnew b (owns_mem q e2 b e3) with h' | h'
      · exact .inl (hsub1.subset h')
      · exact .inr h'

/-! ### What an operation leaves -/
def ptrIds : Option FV → List Nat
  | some (.ref id _) => [id]
  | some (.er id _ _ _) => [id]
  | some (.sl id _) => [id]
  | some (.so id _ _ _) => [id]
  | some (.sc id _ _) => [id]
  | some (.mp id) => [id]
  | _ => []
/-- The objects that an operation writes. -/
def wrIds (s : St) : Op → List Nat
  | .store _ p _ => ptrIds (evX s p)
  | .mapUpdate _ m _ _ => ptrIds (evX s m)
  | .call { callee := .builtin .append, args, .. } => (match args.toList with | x :: _ => ptrIds (evX s x) | [] => [])
  | .call { callee := .builtin .copy, args, .. } => (match args.toList with | x :: _ => ptrIds (evX s x) | [] => [])
  | _ => []

theorem setS_out {s0 : St} {dst : Option Nat} {x : FV} (h : setS s0 dst x = some s1) : s1.S = s0.S ∧ s1.nt = s0.nt ∧ s1.pin = s0.pin ∧ (∀ d, dst = some d → get s1.env d = some x ∧ d < s0.nt) := by
  unfold setS at h
  cases dst with
  | none => cases h; exact ⟨rfl, rfl, rfl, fun d hd => by cases hd⟩
  | some d =>
    simp only at h
    split at h
    · rename_i hd
      cases h
      exact ⟨rfl, rfl, rfl, fun d' hd' => by cases hd'; exact ⟨by simp [get], hd⟩⟩
    · cases h

structure OpOut (o : Oper) (s s1 : St) : Prop where
  nt : s1.nt = s.nt
  len : s1.S.length = s.S.length ∨ s1.S.length = s.S.length + 1
  keep : ∀ i, i < s.S.length → i ∉ wrIds s o.op → s1.S[i]? = s.S[i]?
  dst : ∀ d, o.dst = some d → (∃ v, get s1.env d = some v) ∧ d < s.nt

theorem OpOut.same {x : FV} (h : setS s o.dst x = some s1) : OpOut o s s1 := by
  obtain ⟨h1, h2, _, h4⟩ := setS_out h
  exact ⟨h2, .inl (by rw [h1]), fun i _ _ => by rw [h1], fun d hd => ⟨⟨x, (h4 d hd).1⟩, (h4 d hd).2⟩⟩
theorem OpOut.more {x : FV} {ob : Ob} (h : setS { s with S := s.S ++ [ob] } o.dst x = some s1) : OpOut o s s1 := by
  obtain ⟨h1, h2, _, h4⟩ := setS_out h
  exact ⟨h2, .inr (by rw [h1]; simp), fun i hi _ => by rw [h1]; exact List.getElem?_append_left hi, fun d hd => ⟨⟨x, (h4 d hd).1⟩, (h4 d hd).2⟩⟩

theorem evMu_out {t : TypeId} {m k x : FV} {S' : List Ob} (h : evMu T s t m k x = some S') : S'.length = s.S.length ∧ ∀ i, i ∉ ptrIds (some m) → S'[i]? = s.S[i]? := by
  unfold evMu at h
  simp only [Option.bind_eq_some_iff] at h
  obtain ⟨i, _, h⟩ := h
  split at h
  · simp only [Option.bind_eq_some_iff] at h
    obtain ⟨ki, _, h⟩ := h
    split at h
    · simp only [Option.bind_eq_some_iff, Option.map_eq_some_iff] at h
      obtain ⟨⟨id, ks, es⟩, hO, r, _, rfl⟩ := h
      refine ⟨by simp, fun j hj => ?_⟩
      unfold mapO at hO
      split at hO
      · split at hO
        · cases hO
          exact List.getElem?_set_ne (by simp [ptrIds] at hj; omega)
        · cases hO
      · cases hO
    · cases h
  · cases h
theorem evStN_out {t : TypeId} {p x : FV} {S' : List Ob} (h : evStN T s t p x = some S') : S'.length = s.S.length ∧ ∀ i, i ∉ ptrIds (some p) → S'[i]? = s.S[i]? := by
  unfold evStN at h
  simp only [Option.bind_eq_some_iff] at h
  obtain ⟨i, _, h⟩ := h
  split at h
  · split at h
    · split at h
      · split at h
        · cases h; exact ⟨by simp, fun j hj => List.getElem?_set_ne (by simp [ptrIds] at hj; omega)⟩
        · cases h
      · cases h
    · split at h
      · split at h
        · simp only [Option.bind_eq_some_iff] at h
          obtain ⟨y, _, ds, _, h⟩ := h
          split at h
          · split at h
            · cases h; exact ⟨by simp, fun j hj => List.getElem?_set_ne (by simp [ptrIds] at hj; omega)⟩
            · cases h
          · split at h
            · split at h
              · split at h
                · cases h
                · cases h; exact ⟨by simp, fun j hj => List.getElem?_set_ne (by simp [ptrIds] at hj; omega)⟩
              · cases h
            · cases h
        · cases h
      · cases h
    · cases h
  · cases h

theorem evAp_out {t u : TypeId} {x y : FV} {p : List Ob × Nat} (h : evAp T s t u x y = some p) : p.1.length = s.S.length + 1 ∧ ∀ i, i < s.S.length → i ∉ ptrIds (some x) → p.1[i]? = s.S[i]? := by
  unfold evAp at h
  simp only [Option.bind_eq_some_iff] at h
  obtain ⟨i, _, j, _, h⟩ := h
  split at h
  · simp only [Option.bind_eq_some_iff] at h
    obtain ⟨ei, _, h⟩ := h
    split at h
    · split at h
      · split at h
        · cases h; exact ⟨by simp, fun k hk hn => by rw [List.getElem?_append_left hk]⟩
        · cases h
      · cases h
    · cases h
  · simp only [Option.bind_eq_some_iff] at h
    obtain ⟨ei, _, ys, _, h⟩ := h
    split at h
    · split at h
      · split at h
        · cases h; exact ⟨by simp, fun k hk hn => by rw [List.getElem?_append_left (by simpa using hk)]; exact List.getElem?_set_ne (by simp [ptrIds] at hn; omega)⟩
        · cases h
      · cases h
    · split at h
      · cases h; exact ⟨by simp, fun k hk hn => by rw [List.getElem?_append_left hk]⟩
      · cases h
    · cases h
  · cases h

theorem evOp_out (h : evOp T o s = some s1) : OpOut o s s1 := by
  unfold evOp at h
  split at h
  · simp only [Option.bind_eq_some_iff] at h
    obtain ⟨i, hi, h⟩ := h
    split at h
    · exact OpOut.more h
    · cases h
  · simp only [Option.bind_eq_some_iff] at h
    obtain ⟨i, hi, h⟩ := h
    split at h
    · exact OpOut.more h
    · cases h
  · rename_i t p x ho
    simp only [Option.bind_eq_some_iff] at h
    obtain ⟨vp, hp, vx, hx, S', hS, h⟩ := h
    obtain ⟨h1, h2, _, h4⟩ := setS_out h
    obtain ⟨q1, q2⟩ := evStN_out hS
    exact ⟨h2, .inl (by rw [h1]; exact q1), fun i hi hn => by rw [h1]; exact q2 i (by simpa [wrIds, ho, hp] using hn), fun d hd => ⟨⟨_, (h4 d hd).1⟩, (h4 d hd).2⟩⟩
  · simp only [Option.bind_eq_some_iff] at h
    obtain ⟨i, hi, h⟩ := h
    split at h
    · simp only [Option.bind_eq_some_iff] at h
      obtain ⟨ei, hei, h⟩ := h
      split at h
      · split at h
        · exact OpOut.more h
        · cases h
      · cases h
    · cases h
  · simp only [Option.bind_eq_some_iff] at h
    obtain ⟨i, hi, h⟩ := h
    split at h
    · simp only [Option.bind_eq_some_iff] at h
      obtain ⟨ei, hei, xs, hxs, h⟩ := h
      split at h
      · exact OpOut.more h
      · cases h
    · cases h
  · simp only [Option.bind_eq_some_iff] at h
    obtain ⟨v, hv, h⟩ := h
    exact OpOut.same h
  · split at h
    · exact OpOut.more h
    · cases h
  · rename_i t m k x ho
    simp only [Option.bind_eq_some_iff] at h
    obtain ⟨vm, hm, vk, hk, vx, hx, S', hS, h⟩ := h
    obtain ⟨h1, h2, _, h4⟩ := setS_out h
    obtain ⟨q1, q2⟩ := evMu_out hS
    exact ⟨h2, .inl (by rw [h1]; exact q1), fun i hi hn => by rw [h1]; exact q2 i (by simpa [wrIds, ho, hm] using hn), fun d hd => ⟨⟨_, (h4 d hd).1⟩, (h4 d hd).2⟩⟩
  · rename_i args ts ho
    split at h
    · rename_i sx yx t u e1 e2
      simp only [Option.bind_eq_some_iff] at h
      obtain ⟨vx, hx, vy, hy, p, hp, h⟩ := h
      split at h
      · obtain ⟨h1, h2, _, h4⟩ := setS_out h
        obtain ⟨q1, q3⟩ := evAp_out hp
        exact ⟨h2, .inr (by rw [h1]; exact q1), fun i hi hn => by rw [h1]; exact q3 i hi (by simpa [wrIds, ho, e1, hx] using hn), fun d hd => ⟨⟨_, (h4 d hd).1⟩, (h4 d hd).2⟩⟩
      · cases h
    · cases h
  · rename_i args ts ho
    split at h
    · rename_i dx yx t u e1 e2
      simp only [Option.bind_eq_some_iff] at h
      obtain ⟨vx, hx, vy, hy, p, hp, h⟩ := h
      obtain ⟨h1, h2, _, h4⟩ := setS_out h
      obtain ⟨q1, q3⟩ := evCo_out hp
      exact ⟨h2, .inl (by rw [h1]; exact q1), fun i hi hn => by rw [h1]; exact q3 i (fun id k off n hid he => by subst hid; subst he; exact hn (by simp [wrIds, ho, e1, hx, ptrIds])), fun d hd => ⟨⟨_, (h4 d hd).1⟩, (h4 d hd).2⟩⟩
    · cases h
  · simp only [Option.bind_eq_some_iff] at h
    obtain ⟨x, hx, h⟩ := h
    exact OpOut.same h
end

/-! ### Events -/
/-- What an operation leaves: a value, objects. -/
structure Ev where
  v : FV
  mods : List (Nat × Ob)

def getO : List (Nat × Ob) → Nat → Option Ob
  | [], _ => none
  | (j, o) :: r, i => if j = i then some o else getO r i
def updS (m : List (Nat × Ob)) : Nat → List Ob → List Ob
  | _, [] => []
  | i, o :: r => (getO m i).getD o :: updS m (i + 1) r
def Ev.app (e : Ev) (d : Option Nat) (s : St) : St := ⟨putE d e.v s.env, updS e.mods 0 s.S, s.nt, s.pin⟩

theorem updS_get {m : List (Nat × Ob)} : ∀ {i j : Nat} {S : List Ob}, (updS m i S)[j]? = (S[j]?).map fun o => (getO m (i + j)).getD o
  | i, j, [] => by simp [updS]
  | _, 0, o :: r => by simp [updS]
  | i, j + 1, o :: r => by simp only [updS, List.getElem?_cons_succ]; rw [updS_get, Nat.add_assoc, Nat.add_comm 1 j]
theorem updS_len {m : List (Nat × Ob)} : ∀ {i : Nat} {S : List Ob}, (updS m i S).length = S.length
  | _, [] => rfl
  | i, o :: r => by simp [updS, updS_len]

/-- Number N stands for number nid. -/
def mvN (N nid j : Nat) : Nat := if j = N then nid else j

def wrEv (s1 : St) : List Nat → List (Nat × Ob)
  | [] => []
  | i :: r => (i, (s1.S[i]?).getD .gone) :: wrEv s1 r
/-- The event of an operation that leads to s1; N: how many objects there were; nid: the number of what is new. -/
def mkEv (d : Option Nat) (N nid : Nat) (wr : List Nat) (s1 : St) : Ev :=
  ⟨ren (mvN N nid) (gotE d s1.env), (match s1.S[N]? with | none => [] | some ob => [(nid, ob)]) ++ wrEv s1 wr⟩

mutual
theorem ren_id {σ : Nat → Nat} : ∀ {x : FV}, (∀ j ∈ fids x, σ j = j) → ren σ x = x
  | .d x, _ => rfl
  | .ref id off, h => by simp [ren, h id (by simp [fids])]
  | .sl id n, h => by simp [ren, h id (by simp [fids])]
  | .er id k i off, h => by simp [ren, h id (by simp [fids])]
  | .dp cs, _ => rfl
  | .agg cs, h => by simp only [ren]; rw [rens_id (xs := cs) fun j hj => h j (by simpa [fids] using hj)]
  | .fn f cs, h => by simp only [ren]; rw [rens_id (xs := cs) fun j hj => h j (by simpa [fids] using hj)]
  | .tup cs, h => by simp only [ren]; rw [rens_id (xs := cs) fun j hj => h j (by simpa [fids] using hj)]
  | .mp id, h => by simp [ren, h id (by simp [fids])]
  | .so id _ _ _, h => by simp [ren, h id (by simp [fids])]
  | .sc id _ _, h => by simp [ren, h id (by simp [fids])]
  | .dead, _ => rfl
theorem rens_id {σ : Nat → Nat} : ∀ {xs : List FV}, (∀ j ∈ fidss xs, σ j = j) → rens σ xs = xs
  | [], _ => rfl
  | x :: r, h => by simp only [rens]; rw [ren_id (x := x) fun j hj => h j (by simp [fidss, hj]), rens_id (xs := r) fun j hj => h j (by simp [fidss, hj])]
end
mutual
theorem ren_ren {σ τ : Nat → Nat} : ∀ {x : FV}, ren σ (ren τ x) = ren (fun j => σ (τ j)) x
  | .d x => rfl
  | .ref id off => rfl
  | .sl id n => rfl
  | .er id k i off => rfl
  | .dp cs => rfl
  | .agg cs => by simp only [ren]; rw [rens_rens]
  | .fn f cs => by simp only [ren]; rw [rens_rens]
  | .tup cs => by simp only [ren]; rw [rens_rens]
  | .mp id => rfl
  | .so _ _ _ _ => rfl
  | .sc _ _ _ => rfl
  | .dead => rfl
theorem rens_rens {σ τ : Nat → Nat} : ∀ {xs : List FV}, rens σ (rens τ xs) = rens (fun j => σ (τ j)) xs
  | [] => rfl
  | x :: r => by simp only [rens]; rw [ren_ren, rens_rens]
end
theorem renO_id {σ : Nat → Nat} {ob : Ob} (h : ∀ j ∈ oids ob, σ j = j) : renO σ ob = ob := by
  cases ob <;> simp only [renO]
  rw [rens_id h]

mutual
/-- What stands in a world names objects that are there. -/
theorem VRel.lt {w : World} {I : Nat → Prop} {L : List Lay} : ∀ {x : FV} {v : Value}, VRel w I L x v → ∀ j ∈ fids x, j < L.length
  | .d x, v, h, j, hj => by simp [fids] at hj
  | .ref id off, v, h, j, hj => by simp only [VRel] at h; obtain ⟨b, h1, _⟩ := h; simp [fids] at hj; subst hj; exact (List.getElem?_eq_some_iff.1 h1).1
  | .sl id n, v, h, j, hj => by simp only [VRel] at h; obtain ⟨l, hd, cap, h1, _⟩ := h; simp [fids] at hj; subst hj; exact (List.getElem?_eq_some_iff.1 h1).1
  | .er id k i off, v, h, j, hj => by simp only [VRel] at h; obtain ⟨b, cap, h1, _⟩ := h; simp [fids] at hj; subst hj; exact (List.getElem?_eq_some_iff.1 h1).1
  | .dp cs, v, h, j, hj => by simp [fids] at hj
  | .agg cs, v, h, j, hj => by simp only [VRel] at h; obtain ⟨vs, _, _, h1⟩ := h; exact VRelL.lt h1 j (by simpa [fids] using hj)
  | .fn f cs, v, h, j, hj => by simp only [VRel] at h; obtain ⟨vs, _, h1⟩ := h; exact VRelL.lt h1 j (by simpa [fids] using hj)
  | .tup cs, v, h, j, hj => by simp only [VRel] at h; obtain ⟨vs, _, h1⟩ := h; exact VRelL.lt h1 j (by simpa [fids] using hj)
  | .mp id, v, h, j, hj => by simp only [VRel] at h; obtain ⟨r, h1, _⟩ := h; simp [fids] at hj; subst hj; exact (List.getElem?_eq_some_iff.1 h1).1
  | .so id k off n, v, h, j, hj => by simp only [VRel] at h; obtain ⟨l, hd, c, h1, _⟩ := h; simp [fids] at hj; subst hj; exact (List.getElem?_eq_some_iff.1 h1).1
  | .sc id n c, v, h, j, hj => by simp only [VRel] at h; obtain ⟨l, hd, h1, _⟩ := h; simp [fids] at hj; subst hj; exact (List.getElem?_eq_some_iff.1 h1).1
  | .dead, v, h, j, hj => by simp [fids] at hj
theorem VRelL.lt {w : World} {I : Nat → Prop} {L : List Lay} : ∀ {xs : List FV} {vs : List Value}, VRelL w I L xs vs → ∀ j ∈ fidss xs, j < L.length
  | [], vs, h, j, hj => by simp [fidss] at hj
  | x :: r, vs, h, j, hj => by
    simp only [VRelL] at h
    obtain ⟨v, u, _, h1, h2⟩ := h
    simp only [fidss, List.mem_append] at hj
    rcases hj with hj | hj
    · exact VRel.lt h1 j hj
    · exact VRelL.lt h2 j hj
end

/-- A number that nothing names. -/
structure Fresh (nid : Nat) (s : St) : Prop where
  gone : s.S[nid]? = some .gone
  pin : s.pin ≤ nid
  env : ∀ t x, get s.env t = some x → nid ∉ fids x
  obs : ∀ (i : Nat) (ob : Ob), s.S[i]? = some ob → nid ∉ oids ob

section
variable {P : Program} {T : Nat → Option TI} {w w' : World} {I I' : Nat → Prop} {L L' : List Lay} {s s' s1 s2 : St} {a : Act} {all ops : Array Oper} {o : Oper} {rest : List Oper} {Q : Exit → St → Prop} {c : Code} {md : Region.Mode}

theorem SR.ids (hs : SR w I L s a) : (∀ t x, get s.env t = some x → ∀ j ∈ fids x, j < s.S.length) ∧ ∀ (i : Nat) (ob : Ob), s.S[i]? = some ob → ∀ j ∈ oids ob, j < s.S.length := by
  refine ⟨fun t x hx j hj => hs.len ▸ (hs.env t x hx).lt j hj, fun i ob hi j hj => ?_⟩
  have hlt := (List.getElem?_eq_some_iff.1 hi).1
  have hl : L[i]? = some (L[i]'(by rw [hs.len]; exact hlt)) := List.getElem?_eq_getElem (by rw [hs.len]; exact hlt)
  have h := hs.obs i ob _ hi hl
  cases ob <;> simp only [oids, List.not_mem_nil] at hj
  obtain ⟨b, vs, _, _, _, h1⟩ := h
  exact hs.len ▸ h1.lt j hj

theorem renO_renO {σ τ : Nat → Nat} {ob : Ob} : renO σ (renO τ ob) = renO (fun j => σ (τ j)) ob := by
  cases ob <;> simp only [renO]
  rw [rens_rens]

/-- What is new takes the place that was kept for it. -/
theorem Gh.fill2 {d : Option Nat} {env : List (Nat × FV)} {S S2 : List Ob} {nt pin nid : Nat} {v : FV} {ob : Ob} (hlt : nid < S.length) (hp : pin ≤ nid) (he : ∀ t x, get env t = some x → ∀ j ∈ fids x, j < S.length ∧ j ≠ nid) (hl : S2.length = S.length)
    (hS : ∀ σ : Nat → Nat, (∀ j, j < S.length → j ≠ nid → σ j = j) → σ nid = S.length → ∀ (i : Nat) (x : Ob), S2[i]? = some x → (S ++ [ob])[if i = nid then S.length else i]? = some (renO σ x)) (hv : ∀ j ∈ fids v, j ≤ S.length ∧ j ≠ nid) :
    Gh ⟨putE d v env, S ++ [ob], nt, pin⟩ ⟨putE d (ren (mvN S.length nid) v) env, S2, nt, pin⟩ := by
  have hσ : ∀ j, j < S.length → j ≠ nid → σ0 (S ++ [ob]).length ((List.range S.length).set nid S.length) j = j := by
    intro j hj hn
    simp [σ0, List.getD, List.getElem?_set_ne (Ne.symm hn), List.getElem?_range hj]
  have hσn : σ0 (S ++ [ob]).length ((List.range S.length).set nid S.length) nid = S.length := by
    simp [σ0, List.getD, List.getElem?_set_self (show nid < (List.range S.length).length by simpa using hlt)]
  refine Gh.renum (s := ⟨_, S ++ [ob], nt, pin⟩) ((List.range S.length).set nid S.length) ?_ ?_ ?_ ⟨by simp [hl], ?_⟩ ?_
  · unfold List.Nodup
    rw [List.pairwise_iff_getElem]
    intro i j hi hj hij
    simp at hi hj
    rw [List.getElem_set, List.getElem_set, List.getElem_range, List.getElem_range]
    split <;> split <;> omega
  · intro i hi
    rcases List.mem_or_eq_of_mem_set hi with h | h
    · simp at h ⊢; omega
    · subst h; simp
  · intro t x hx
    have keep : get env t = some x → get env t = some (ren (σ0 (S ++ [ob]).length ((List.range S.length).set nid S.length)) x) := fun h => by
      rw [ren_id fun j hj => hσ j (he t x h j hj).1 (he t x h j hj).2]; exact h
    cases d with
    | none => exact keep hx
    | some d =>
      simp only [putE, get] at hx ⊢
      by_cases hd : d = t
      · rw [if_pos hd] at hx ⊢
        cases hx
        rw [ren_ren, ren_id fun j hj => ?_]
        obtain ⟨g1, g2⟩ := hv j hj
        unfold mvN
        split
        · rename_i hj'; rw [hσn, hj']
        · exact hσ j (by omega) g2
      · rw [if_neg hd] at hx ⊢; exact keep hx
  · intro j i c hj hc
    have hc' : S2[j]? = some c := hc
    have hjl : j < S.length := hl ▸ (List.getElem?_eq_some_iff.1 hc').1
    have hi : i = if j = nid then S.length else j := by
      by_cases hn : nid = j
      · subst hn
        rw [List.getElem?_set_self (by simpa using hlt)] at hj
        cases hj; rw [if_pos rfl]
      · rw [List.getElem?_set_ne hn, List.getElem?_range hjl] at hj
        cases hj; rw [if_neg (Ne.symm hn)]
    subst hi
    exact hS _ hσ hσn j c hc'
  · intro i hi
    have hi' : i < pin := hi
    rw [List.getElem?_set_ne (by omega), List.getElem?_range (by omega)]
theorem Gh.fill {d : Option Nat} {env : List (Nat × FV)} {S : List Ob} {nt pin nid : Nat} {v : FV} {ob : Ob} (hg : S[nid]? = some .gone) (hp : pin ≤ nid) (he : ∀ t x, get env t = some x → ∀ j ∈ fids x, j < S.length ∧ j ≠ nid)
    (hS : ∀ (i : Nat) (ob : Ob), S[i]? = some ob → ∀ j ∈ oids ob, j < S.length ∧ j ≠ nid) (hv : ∀ j ∈ fids v, j ≤ S.length ∧ j ≠ nid) (ho : ∀ j ∈ oids ob, j < S.length ∧ j ≠ nid) :
    Gh ⟨putE d v env, S ++ [ob], nt, pin⟩ ⟨putE d (ren (mvN S.length nid) v) env, S.set nid ob, nt, pin⟩ := by
  have hlt : nid < S.length := (List.getElem?_eq_some_iff.1 hg).1
  refine Gh.fill2 hlt hp he (by simp) (fun σ hσ _ i x hx => ?_) hv
  by_cases hn : i = nid
  · subst hn
    rw [List.getElem?_set_self hlt] at hx
    cases hx
    rw [if_pos rfl, renO_id fun k hk => hσ k (ho k hk).1 (ho k hk).2]
    simp
  · rw [List.getElem?_set_ne (Ne.symm hn)] at hx
    rw [if_neg hn, List.getElem?_append_left (List.getElem?_eq_some_iff.1 hx).1, hx, renO_id fun k hk => hσ k (hS i x hx k hk).1 (hS i x hx k hk).2]
end
end Go.Proofs.YtjlamhilnkadcaaGreatDoor.Pay
