/- The rule of a call. No statement of the seed is proved here. -/
import Derived.Test.YtjlamhilnkadcaaGreatDoorPayK
namespace Go.Proofs.YtjlamhilnkadcaaGreatDoor.Pay
open Go Go.RowKit
set_option linter.unusedVariables false
set_option linter.unusedSimpArgs false

/-! ### Other numbers for objects -/
mutual
def ren (σ : Nat → Nat) : FV → FV
  | .d x => .d x
  | .ref id off => .ref (σ id) off
  | .sl id n => .sl (σ id) n
  | .er id k i off => .er (σ id) k i off
  | .dp cs => .dp cs
  | .agg cs => .agg (rens σ cs)
  | .fn f cs => .fn f (rens σ cs)
  | .tup cs => .tup (rens σ cs)
  | .mp id => .mp (σ id)
  | .so id k off n => .so (σ id) k off n
  | .sc id n c => .sc (σ id) n c
  | .dead => .dead
def rens (σ : Nat → Nat) : List FV → List FV
  | [] => []
  | x :: r => ren σ x :: rens σ r
end

def renO (σ : Nat → Nat) : Ob → Ob
  | .cells t cs => .cells t (rens σ cs)
  | o => o

def renOs (σ : Nat → Nat) : List Ob → List Ob
  | [] => []
  | o :: r => renO σ o :: renOs σ r

def setAll : List Ob → List Nat → List Ob → List Ob
  | S, i :: p, o :: r => setAll (S.set i o) p r
  | S, _, _ => S

section
variable {P : Program} {T : Nat → Option TI} {w w' : World} {I I' : Nat → Prop} {L L' : List Lay} {s s' : St} {a : Act} {all : Array Oper} {o : Oper} {rest : List Oper} {Q : Exit → St → Prop}

mutual
theorem VRel.ren {σ : Nat → Nat} (h : ∀ (j : Nat) (l : Lay), L[j]? = some l → L'[σ j]? = some l) : ∀ {x : FV} {v : Value}, VRel w I L x v → VRel w I L' (ren σ x) v
  | .d x, v, hv => by simpa only [Pay.ren, VRel] using hv
  | .ref id off, v, hv => by simp only [Pay.ren, VRel] at hv ⊢; obtain ⟨b, h1, h2⟩ := hv; exact ⟨b, h _ _ h1, h2⟩
  | .sl id n, v, hv => by simp only [Pay.ren, VRel] at hv ⊢; obtain ⟨l, hd, c, h1, h2⟩ := hv; exact ⟨l, hd, c, h _ _ h1, h2⟩
  | .er id k i off, v, hv => by simp only [Pay.ren, VRel] at hv ⊢; obtain ⟨b, c, h1, h2⟩ := hv; exact ⟨b, c, h _ _ h1, h2⟩
  | .dp cs, v, hv => by simpa only [Pay.ren, VRel] using hv
  | .agg cs, v, hv => by simp only [Pay.ren, VRel] at hv ⊢; obtain ⟨vs, h1, h2, h3⟩ := hv; exact ⟨vs, h1, h2, VRelL.ren h h3⟩
  | .fn f cs, v, hv => by simp only [Pay.ren, VRel] at hv ⊢; obtain ⟨vs, h1, h3⟩ := hv; exact ⟨vs, h1, VRelL.ren h h3⟩
  | .tup cs, v, hv => by simp only [Pay.ren, VRel] at hv ⊢; obtain ⟨vs, h1, h3⟩ := hv; exact ⟨vs, h1, VRelL.ren h h3⟩
  | .mp id, v, hv => by simp only [Pay.ren, VRel] at hv ⊢; obtain ⟨r, h1, h2⟩ := hv; exact ⟨r, h _ _ h1, h2⟩
  | .so id k off n, v, hv => by simp only [Pay.ren, VRel] at hv ⊢; obtain ⟨l, hd, c, h1, h2⟩ := hv; exact ⟨l, hd, c, h _ _ h1, h2⟩
  | .sc id n c, v, hv => by simp only [Pay.ren, VRel] at hv ⊢; obtain ⟨l, hd, h1, h2⟩ := hv; exact ⟨l, hd, h _ _ h1, h2⟩
  | .dead, v, hv => by simp only [Pay.ren, VRel]
theorem VRelL.ren {σ : Nat → Nat} (h : ∀ (j : Nat) (l : Lay), L[j]? = some l → L'[σ j]? = some l) : ∀ {xs : List FV} {vs : List Value}, VRelL w I L xs vs → VRelL w I L' (rens σ xs) vs
  | [], vs, hv => by simpa only [rens, VRelL] using hv
  | x :: xs, vs, hv => by simp only [rens, VRelL] at hv ⊢; obtain ⟨v, r, h1, h2, h3⟩ := hv; exact ⟨v, r, h1, VRel.ren h h2, VRelL.ren h h3⟩
end

mutual
theorem VRel.back {σ : Nat → Nat} (h : ∀ (j : Nat) (l : Lay), L[σ j]? = some l → L'[j]? = some l) : ∀ {x : FV} {v : Value}, VRel w I L (ren σ x) v → VRel w I L' x v
  | .d x, v, hv => by simpa only [Pay.ren, VRel] using hv
  | .ref id off, v, hv => by simp only [Pay.ren, VRel] at hv ⊢; obtain ⟨b, h1, h2⟩ := hv; exact ⟨b, h _ _ h1, h2⟩
  | .sl id n, v, hv => by simp only [Pay.ren, VRel] at hv ⊢; obtain ⟨l, hd, c, h1, h2⟩ := hv; exact ⟨l, hd, c, h _ _ h1, h2⟩
  | .er id k i off, v, hv => by simp only [Pay.ren, VRel] at hv ⊢; obtain ⟨b, c, h1, h2⟩ := hv; exact ⟨b, c, h _ _ h1, h2⟩
  | .dp cs, v, hv => by simpa only [Pay.ren, VRel] using hv
  | .agg cs, v, hv => by simp only [Pay.ren, VRel] at hv ⊢; obtain ⟨vs, h1, h2, h3⟩ := hv; exact ⟨vs, h1, h2, VRelL.back h h3⟩
  | .fn f cs, v, hv => by simp only [Pay.ren, VRel] at hv ⊢; obtain ⟨vs, h1, h3⟩ := hv; exact ⟨vs, h1, VRelL.back h h3⟩
  | .tup cs, v, hv => by simp only [Pay.ren, VRel] at hv ⊢; obtain ⟨vs, h1, h3⟩ := hv; exact ⟨vs, h1, VRelL.back h h3⟩
  | .mp id, v, hv => by simp only [Pay.ren, VRel] at hv ⊢; obtain ⟨r, h1, h2⟩ := hv; exact ⟨r, h _ _ h1, h2⟩
  | .so id k off n, v, hv => by simp only [Pay.ren, VRel] at hv ⊢; obtain ⟨l, hd, c, h1, h2⟩ := hv; exact ⟨l, hd, c, h _ _ h1, h2⟩
  | .sc id n c, v, hv => by simp only [Pay.ren, VRel] at hv ⊢; obtain ⟨l, hd, h1, h2⟩ := hv; exact ⟨l, hd, h _ _ h1, h2⟩
  | .dead, v, hv => by simp only [VRel]
theorem VRelL.back {σ : Nat → Nat} (h : ∀ (j : Nat) (l : Lay), L[σ j]? = some l → L'[j]? = some l) : ∀ {xs : List FV} {vs : List Value}, VRelL w I L (rens σ xs) vs → VRelL w I L' xs vs
  | [], vs, hv => by simpa only [rens, VRelL] using hv
  | x :: xs, vs, hv => by simp only [rens, VRelL] at hv ⊢; obtain ⟨v, r, h1, h2, h3⟩ := hv; exact ⟨v, r, h1, VRel.back h h2, VRelL.back h h3⟩
end

theorem ORel.ren {σ : Nat → Nat} (h : ∀ (j : Nat) (l : Lay), L[j]? = some l → L'[σ j]? = some l) {o : Ob} {l : Lay} (ho : ORel w I L o l) : ORel w I L' (renO σ o) l := by
  cases o with
  | cells t cs => obtain ⟨b, vs, h1, h2, h3, h4⟩ := ho; exact ⟨b, vs, h1, h2, h3, VRelL.ren h h4⟩
  | arr e k xs => exact ho
  | frz k xs => exact ho
  | map ks es => exact ho
  | fmap ks es => exact ho
  | iter ks es seen => exact ho
  | gone => trivial

theorem ORel.back {σ : Nat → Nat} (h : ∀ (j : Nat) (l : Lay), L[σ j]? = some l → L'[j]? = some l) {o : Ob} {l : Lay} (ho : ORel w I L (renO σ o) l) : ORel w I L' o l := by
  cases o with
  | cells t cs => obtain ⟨b, vs, h1, h2, h3, h4⟩ := ho; exact ⟨b, vs, h1, h2, h3, VRelL.back h h4⟩
  | arr e k xs => exact ho
  | frz k xs => exact ho
  | map ks es => exact ho
  | fmap ks es => exact ho
  | iter ks es seen => exact ho
  | gone => trivial

theorem own_ren (σ : Nat → Nat) (o : Ob) (l : Lay) : own (renO σ o) l = own o l := by cases o <;> cases l <;> rfl

theorem renOs_get (σ : Nat → Nat) : ∀ (S : List Ob) (i : Nat), (renOs σ S)[i]? = (S[i]?).map (renO σ)
  | [], i => by simp [renOs]
  | x :: S, 0 => by simp [renOs]
  | x :: S, i + 1 => by simp [renOs, renOs_get σ S i]
theorem renOs_length (σ : Nat → Nat) : ∀ (S : List Ob), (renOs σ S).length = S.length
  | [] => rfl
  | x :: S => by simp [renOs, renOs_length σ S]

theorem setAll_length : ∀ (S : List Ob) (p : List Nat) (r : List Ob), (setAll S p r).length = S.length
  | S, [], _ => by simp [setAll]
  | S, i :: p, [] => by simp [setAll]
  | S, i :: p, o :: r => by rw [setAll, setAll_length]; simp

theorem setAll_other : ∀ (p : List Nat) (S : List Ob) (r : List Ob) (i : Nat), i ∉ p → (setAll S p r)[i]? = S[i]?
  | [], S, _, i, _ => by simp [setAll]
  | j :: p, S, [], i, _ => by simp [setAll]
  | j :: p, S, o :: r, i, h => by
    simp only [List.mem_cons, not_or] at h
    rw [setAll, setAll_other p _ r i h.2, List.getElem?_set_ne (Ne.symm h.1)]

theorem setAll_at : ∀ (p : List Nat) (S : List Ob) (r : List Ob) (j i : Nat) (o : Ob), p.Nodup → p[j]? = some i → r[j]? = some o → i < S.length → (setAll S p r)[i]? = some o
  | [], S, r, j, i, o, _, h, _, _ => by simp at h
  | q :: p, S, [], j, i, o, _, _, h, _ => by simp at h
  | q :: p, S, x :: r, j, i, o, hn, h1, h2, hi => by
    simp only [List.nodup_cons] at hn
    cases j with
    | zero =>
      simp at h1 h2; subst h1; subst h2
      rw [setAll, setAll_other p _ r q hn.1, List.getElem?_set_self hi]
    | succ j =>
      rw [setAll]
      exact setAll_at p _ r j i o hn.2 (by simpa using h1) (by simpa using h2) (by simpa using hi)

/-- A function that can be called in the plain way. -/
structure Callable (P : Program) (g : FuncId) : Prop where
  ex : ∃ fn, P.funcs[g]? = some fn ∧ (fn.name == "runtime.NumGoroutine") = false ∧ fn.body.isNone = false

theorem run_call {g : FuncId} (hc : Callable P g) {fx : Operand} {args : Array Operand} {ts : Array TypeId} (ho : o.op = .call { callee := .value fx, args, argTypes := ts }) {caps : List Value}
    (hf : a.eval fx = .func (.func g) #[] caps.toArray) : (execOp a.eval o).run P w = .ok (.enter g (args.toList.map a.eval ++ caps).toArray) w := by
  obtain ⟨fn, h1, h2, h3⟩ := hc.ex
  unfold execOp
  simp only [ho, resolve, Deferred.ofValue, hf, Sem.run_bind, Sem.run_pure, Result.andThen_ok, invoke, callFunc, run_program, h1, h2, h3, Bool.false_eq_true, if_false]
  congr 2
  apply Array.ext'
  simp

/-- How objects of the caller become those of the callee. -/
def σ0 (n : Nat) (perm : List Nat) (j : Nat) : Nat := perm.getD j n
/-- And back: new ones behind the caller's. -/
def σ1 (n : Nat) (perm : List Nat) (j : Nat) : Nat := if j < perm.length then perm.getD j n else n + (j - perm.length)

/-- An argument is handed over as it is, or as data. -/
def ArgOk (S : List Ob) (perm : List Nat) (x c : FV) : Prop := x = ren (σ0 S.length perm) c ∨ viewF false S x = some c

def ArgsOk (S : List Ob) (perm : List Nat) : List FV → List FV → Prop
  | [], [] => True
  | x :: xs, c :: cs => ArgOk S perm x c ∧ ArgsOk S perm xs cs
  | _, _ => False

def PassOk (S : List Ob) (perm : List Nat) (cS : List Ob) : Prop := cS.length = perm.length ∧ ∀ (j i : Nat) (c : Ob), perm[j]? = some i → cS[j]? = some c → S[i]? = some (renO (σ0 S.length perm) c)

theorem args_ok (hs : SR w I L s a) {perm : List Nat} {Lc : List Lay} (hL : ∀ (j : Nat) (l : Lay), L[σ0 s.S.length perm j]? = some l → Lc[j]? = some l) : ∀ {xs cs : List FV} {vs : List Value}, ArgsOk s.S perm xs cs → VRelL w I L xs vs → VRelL w I Lc cs vs
  | [], [], vs, _, h => by simpa only [VRelL] using h
  | x :: xs, c :: cs, vs, ha, h => by
    simp only [VRelL] at h ⊢
    obtain ⟨v, r, h1, h2, h3⟩ := h
    refine ⟨v, r, h1, ?_, args_ok hs hL ha.2 h3⟩
    rcases ha.1 with rfl | h4
    · exact VRel.back hL h2
    · exact viewF_ok hs Lc h2 h4
  | [], _ :: _, vs, ha, _ => ha.elim
  | _ :: _, [], vs, ha, _ => ha.elim

theorem WpO.call {fx : Operand} {args : Array Operand} {ts : Array TypeId} {g : FuncId} {caps xs : List FV} (hw : wantS all s o = some true) (ho : o.op = .call { callee := .value fx, args, argTypes := ts })
    (hf : evX s fx = some (.fn g caps)) (hx : evXs s args.toList = some xs) (hc : Callable P g) (hp : s.pin ≤ s.S.length)
    (perm : List Nat) (hn : perm.Nodup) (hlt : ∀ i ∈ perm, i < s.S.length) {cargs : List FV} {cS : List Ob} (ha : ArgsOk s.S perm (xs ++ caps) cargs) (hpass : PassOk s.S perm cS)
    {R : FV → List Ob → Prop} (hcall : WpF P g cargs cS R)
    (hrest : ∀ r S1, R r S1 → ∃ s', setS { s with S := setAll s.S perm (renOs (σ1 s.S.length perm) (S1.take perm.length)) ++ renOs (σ1 s.S.length perm) (S1.drop perm.length) } o.dst (ren (σ1 s.S.length perm) r) = some s' ∧ WpO P all rest s' Q) :
    WpO P all (o :: rest) s Q := fun w I L a hs => by
  unfold wpList
  rw [if_pos (hs.want hw)]
  refine .inl ?_
  have hfv := hs.evX hf
  simp only [VRel] at hfv
  obtain ⟨cvs, hfv, hcv⟩ := hfv
  unfold Oper.wp
  rw [run_call hc ho hfv, Oper.upon_enter]
  obtain ⟨hlen, hpo⟩ := hpass
  -- the callee's layout
  have hLc : ∃ Lc : List Lay, Lc.length = perm.length ∧ ∀ (j i : Nat), perm[j]? = some i → Lc[j]? = L[i]? := by
    refine ⟨perm.map fun i => L.getD i (.m 0), by simp, fun j i hj => ?_⟩
    have hi : i < L.length := by rw [hs.len]; exact hlt i (List.mem_of_getElem? hj)
    simp [hj, List.getD, List.getElem?_eq_getElem hi]
  obtain ⟨Lc, hLl, hLc⟩ := hLc
  have hback : ∀ (j : Nat) (l : Lay), L[σ0 s.S.length perm j]? = some l → Lc[j]? = some l := by
    intro j l hl
    by_cases hj : j < perm.length
    · rw [hLc j perm[j] (List.getElem?_eq_getElem hj)]
      simpa [σ0, List.getD, List.getElem?_eq_getElem hj] using hl
    · have : L.length ≤ s.S.length := by rw [hs.len]; exact Nat.le_refl _
      simp [σ0, List.getD, List.getElem?_eq_none (Nat.le_of_not_lt hj), List.getElem?_eq_none this] at hl
  have hcS : ∀ (j : Nat) (c : Ob), cS[j]? = some c → ∃ i, perm[j]? = some i ∧ s.S[i]? = some (renO (σ0 s.S.length perm) c) := by
    intro j c hj
    have hjl : j < perm.length := by rw [← hlen]; exact (List.getElem?_eq_some_iff.1 hj).1
    exact ⟨perm[j], List.getElem?_eq_getElem hjl, hpo j _ c (List.getElem?_eq_getElem hjl) hj⟩
  have hinj : ∀ (j j' i : Nat), perm[j]? = some i → perm[j']? = some i → j = j' := by
    intro j j' i h1 h2
    have hj := (List.getElem?_eq_some_iff.1 h1).1
    exact (List.getElem?_inj hj hn).1 (h1.trans h2.symm)
  have hmem : ∀ b ∈ owns cS Lc, b ∈ owns s.S L := by
    intro b hb
    obtain ⟨j, c, l, h1, h2, h3⟩ := owns_of_mem hb
    obtain ⟨i, h4, h5⟩ := hcS j c h1
    exact owns_mem h5 (by rw [← hLc j i h4]; exact h2) b (by rw [own_ren]; exact h3)
  have hOR : OR w I Lc cS := by
    refine ⟨by rw [hLl, hlen], fun j c l h1 h2 => ?_, owns_nodup fun j j' c c' l l' hne h1 h2 h3 h4 b hb hb' => ?_, fun b hb => hs.sep b (hmem b hb), hs.imm⟩
    · obtain ⟨i, h4, h5⟩ := hcS j c h1
      exact ORel.back hback (hs.obs i _ l h5 (by rw [← hLc j i h4]; exact h2))
    · obtain ⟨i, h5, h6⟩ := hcS j c h1
      obtain ⟨i', h7, h8⟩ := hcS j' c' h3
      have hii : i ≠ i' := fun e => hne (hinj j j' i h5 (e ▸ h7))
      exact owns_apart hs.nodup h6 (by rw [← hLc j i h5]; exact h2) h8 (by rw [← hLc j' i' h7]; exact h4) hii b (by rw [own_ren]; exact hb) (by rw [own_ren]; exact hb')
  have hargs : VRelL w I Lc cargs (args.toList.map a.eval ++ cvs) := args_ok hs hback ha ((hs.evXs hx).append hcv)
  refine (hcall w I Lc _ hargs hOR).mono fun e w' ⟨r, v, S1, I1, L1, he, hR, hrv, hO1, evo, hle, hlay⟩ => ?_
  subst he
  obtain ⟨s1, hset, hk⟩ := hrest r S1 hR
  show wpList P all _ rest (a.put o.dst v) w'
  -- the caller's layout
  let L2 := L ++ L1.drop perm.length
  have hL1l : L1.length = S1.length := hO1.len
  have hleP : perm.length ≤ S1.length := by rw [← hlen]; exact hle
  have hfor : ∀ (j : Nat) (l : Lay), L1[j]? = some l → L2[σ1 s.S.length perm j]? = some l := by
    intro j l hl
    unfold σ1
    by_cases hj : j < perm.length
    · rw [if_pos hj]
      have h1 := hlay j (by rw [hlen]; exact hj)
      rw [hl] at h1
      have h2 := hLc j perm[j] (List.getElem?_eq_getElem hj)
      rw [← h1] at h2
      have hi : perm[j] < L.length := by rw [hs.len]; exact hlt _ (List.getElem_mem hj)
      simp only [List.getD, List.getElem?_eq_getElem hj, Option.getD_some, L2]
      rw [List.getElem?_append_left hi]
      exact h2.symm
    · rw [if_neg hj]
      simp only [L2]
      rw [List.getElem?_append_right (by rw [hs.len]; omega), hs.len, List.getElem?_drop]
      rw [← hl]
      congr 1
      omega
  have hext : ∀ (i : Nat) (l : Lay), L[i]? = some l → L2[i]? = some l := fun i l hl => by
    simp only [L2]
    rw [List.getElem?_append_left (List.getElem?_eq_some_iff.1 hl).1]; exact hl
  have hI : ∀ b, I b → w'.heap[b]? = w.heap[b]? := fun b hb => evo.keep b (hs.imm b hb) fun h => (hs.sep b (hmem b h)).1 hb
  have hblk : ∀ b ∈ owns S1 L1, b ∈ owns cS Lc ∨ w.heap.size ≤ b := evo.own
  have hS2 : (setAll s.S perm (renOs (σ1 s.S.length perm) (S1.take perm.length)) ++ renOs (σ1 s.S.length perm) (S1.drop perm.length)).length = L2.length := by
    simp only [L2, List.length_append, setAll_length, renOs_length, List.length_drop, hs.len, hL1l]
  -- what stands where
  have hcase : ∀ (i : Nat) (ob : Ob) (l : Lay), (setAll s.S perm (renOs (σ1 s.S.length perm) (S1.take perm.length)) ++ renOs (σ1 s.S.length perm) (S1.drop perm.length))[i]? = some ob → L2[i]? = some l →
      (i ∉ perm ∧ s.S[i]? = some ob ∧ L[i]? = some l) ∨ (∃ (j : Nat) (c : Ob), i = σ1 s.S.length perm j ∧ S1[j]? = some c ∧ L1[j]? = some l ∧ ob = renO (σ1 s.S.length perm) c) := by
    intro i ob l h1 h2
    by_cases hi : i < s.S.length
    · rw [List.getElem?_append_left (by rw [setAll_length]; exact hi)] at h1
      have h2' : L[i]? = some l := by
        simp only [L2] at h2
        rwa [List.getElem?_append_left (by rw [hs.len]; exact hi)] at h2
      by_cases hip : i ∈ perm
      · right
        obtain ⟨j, hj⟩ := List.getElem?_of_mem hip
        have hjl : j < perm.length := (List.getElem?_eq_some_iff.1 hj).1
        have hj1 : j < S1.length := by omega
        have hget : (renOs (σ1 s.S.length perm) (S1.take perm.length))[j]? = some (renO (σ1 s.S.length perm) S1[j]) := by
          rw [renOs_get, List.getElem?_take_of_lt hjl, List.getElem?_eq_getElem hj1]; rfl
        rw [setAll_at perm s.S _ j i _ hn hj hget hi] at h1
        cases h1
        refine ⟨j, S1[j], ?_, List.getElem?_eq_getElem hj1, ?_, rfl⟩
        · unfold σ1
          rw [if_pos hjl, List.getD_eq_getElem?_getD, hj]
          rfl
        · rw [hlay j (by rw [hlen]; exact hjl), hLc j i hj]; exact h2'
      · left
        rw [setAll_other perm s.S _ i hip] at h1
        exact ⟨hip, h1, h2'⟩
    · right
      rw [List.getElem?_append_right (by rw [setAll_length]; omega), setAll_length, renOs_get, List.getElem?_drop] at h1
      simp only [L2] at h2
      rw [List.getElem?_append_right (by rw [hs.len]; omega), hs.len, List.getElem?_drop] at h2
      simp only [Option.map_eq_some_iff] at h1
      obtain ⟨c, hc1, rfl⟩ := h1
      refine ⟨perm.length + (i - s.S.length), c, ?_, hc1, h2, rfl⟩
      unfold σ1
      rw [if_neg (by omega)]
      omega
  -- blocks of the caller's that were not handed over
  have hfar : ∀ (i : Nat) (ob : Ob) (l : Lay), i ∉ perm → s.S[i]? = some ob → L[i]? = some l → ∀ b ∈ own ob l, b ∉ owns cS Lc := by
    intro i ob l hip h1 h2 b hb hb'
    obtain ⟨j, c, lc, h3, h4, h5⟩ := owns_of_mem hb'
    obtain ⟨i', h6, h7⟩ := hcS j c h3
    have hne : i ≠ i' := fun e => hip (e ▸ List.mem_of_getElem? h6)
    exact owns_apart hs.nodup h1 h2 h7 (by rw [← hLc j i' h6]; exact h4) hne b hb (by rw [own_ren]; exact h5)
  have hold : ∀ (i : Nat) (ob : Ob) (l : Lay), i ∉ perm → s.S[i]? = some ob → L[i]? = some l → ∀ b ∈ own ob l, w'.heap[b]? = w.heap[b]? := fun i ob l hip h1 h2 b hb =>
    evo.keep b (hs.sep b (owns_mem h1 h2 b hb)).2 (hfar i ob l hip h1 h2 b hb)
  have hSR : SR w' I1 L2 { s with S := setAll s.S perm (renOs (σ1 s.S.length perm) (S1.take perm.length)) ++ renOs (σ1 s.S.length perm) (S1.drop perm.length) } a := by
    refine ⟨fun t x hx => VRel.mono hI evo.imm hext _ _ (hs.env t x hx), hs.nt, hS2.symm, ?_, ?_, ?_, hO1.imm, hs.defers⟩
    · intro i ob l h1 h2
      rcases hcase i ob l h1 h2 with ⟨hip, h3, h4⟩ | ⟨j, c, rfl, h3, h4, rfl⟩
      · exact ORel.mono hI evo.imm hext (hold i ob l hip h3 h4) (hs.obs i ob l h3 h4)
      · exact ORel.ren hfor (hO1.obs j c l h3 h4)
    · refine owns_nodup fun i i' ob ob' l l' hne h1 h2 h3 h4 b hb hb' => ?_
      rcases hcase i ob l h1 h2 with ⟨hip, h5, h6⟩ | ⟨j, c, rfl, h5, h6, rfl⟩
      · rcases hcase i' ob' l' h3 h4 with ⟨hip', h7, h8⟩ | ⟨j', c', rfl, h7, h8, rfl⟩
        · exact owns_apart hs.nodup h5 h6 h7 h8 hne b hb hb'
        · rw [own_ren] at hb'
          rcases hblk b (owns_mem h7 h8 b hb') with h9 | h9
          · exact hfar i ob l hip h5 h6 b hb h9
          · have := (hs.sep b (owns_mem h5 h6 b hb)).2; omega
      · rw [own_ren] at hb
        rcases hcase i' ob' l' h3 h4 with ⟨hip', h7, h8⟩ | ⟨j', c', rfl, h7, h8, rfl⟩
        · rcases hblk b (owns_mem h5 h6 b hb) with h9 | h9
          · exact hfar i' ob' l' hip' h7 h8 b hb' h9
          · have := (hs.sep b (owns_mem h7 h8 b hb')).2; omega
        · rw [own_ren] at hb'
          exact owns_apart hO1.nodup h5 h6 h7 h8 (fun e => hne (by rw [e])) b hb hb'
    · intro b hb
      obtain ⟨i, ob, l, h1, h2, h3⟩ := owns_of_mem hb
      rcases hcase i ob l h1 h2 with ⟨hip, h5, h6⟩ | ⟨j, c, rfl, h5, h6, rfl⟩
      · have hold1 := hs.sep b (owns_mem h5 h6 b h3)
        refine ⟨fun hi => ?_, Nat.lt_of_lt_of_le hold1.2 evo.size⟩
        rcases evo.immNew b hi with h9 | h9 | h9
        · exact hold1.1 h9
        · exact hfar i ob l hip h5 h6 b h3 h9
        · omega
      · rw [own_ren] at h3
        exact hO1.sep b (owns_mem h5 h6 b h3)
  have hStep : Step w I L s w' I1 L2 { s with S := setAll s.S perm (renOs (σ1 s.S.length perm) (S1.take perm.length)) ++ renOs (σ1 s.S.length perm) (S1.drop perm.length) } := by
    refine ⟨⟨evo.os, evo.tape, evo.output, evo.size, fun b hb hnb => evo.keep b hb fun h => hnb (hmem b h), evo.imm, fun b hb => ?_, fun b hb => ?_⟩, rfl, fun i hi => ?_⟩
    · rcases evo.immNew b hb with h | h | h
      · exact .inl h
      · exact .inr (.inl (hmem b h))
      · exact .inr (.inr h)
    · obtain ⟨i, ob, l, h1, h2, h3⟩ := owns_of_mem hb
      rcases hcase i ob l h1 h2 with ⟨hip, h5, h6⟩ | ⟨j, c, rfl, h5, h6, rfl⟩
      · exact .inl (owns_mem h5 h6 b h3)
      · rw [own_ren] at h3
        exact (hblk b (owns_mem h5 h6 b h3)).imp (hmem b) fun h => h
    · simp only [L2]
      rw [List.getElem?_append_left (by rw [hs.len]; omega)]
  obtain ⟨q1, q2⟩ := put_step hSR hStep (VRel.ren hfor hrv) hset
  exact wpList_mono (fun e a' w'' p => p.from q2) _ _ _ (hk w' I1 L2 _ q1)

end
end Go.Proofs.YtjlamhilnkadcaaGreatDoor.Pay
