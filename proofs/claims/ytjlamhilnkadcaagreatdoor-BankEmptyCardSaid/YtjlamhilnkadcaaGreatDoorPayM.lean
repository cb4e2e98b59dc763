/- Calls that hand over data alone; what a state may be taken for; operations run one behind the other. No statement of the seed is proved here. -/
import Derived.Test.YtjlamhilnkadcaaGreatDoorPayL
import Derived.Test.YtjlamhilnkadcaaGreatDoorMpB
namespace Go.Proofs.YtjlamhilnkadcaaGreatDoor.Pay
open Go Go.RowKit
set_option linter.unusedVariables false
set_option linter.unusedSimpArgs false

section
variable {P : Program} {T : Nat → Option TI} {w w' : World} {I I' : Nat → Prop} {L L' : List Lay} {s s' s1 : St} {a : Act} {all : Array Oper} {o : Oper} {rest : List Oper} {Q : Exit → St → Prop} {c : Code}

theorem argsOk_view {S : List Ob} : ∀ {xs cs : List FV}, viewFs false S xs = some cs → ArgsOk S [] xs cs
  | [], cs, h => by simp [viewFs] at h; subst h; trivial
  | x :: xs, cs, h => by
    simp only [viewFs, Option.bind_eq_some_iff, Option.map_eq_some_iff] at h
    obtain ⟨y, hy, zs, hz, rfl⟩ := h
    exact ⟨.inr hy, argsOk_view hz⟩

/-- A call that hands over data alone. -/
theorem WpO.callD {fx : Operand} {args : Array Operand} {ts : Array TypeId} {g : FuncId} {caps xs cargs : List FV} (hw : wantS all s o = some true) (ho : o.op = .call { callee := .value fx, args, argTypes := ts })
    (hf : evX s fx = some (.fn g caps)) (hx : evXs s args.toList = some xs) (hv : viewFs false s.S (xs ++ caps) = some cargs) (hc : Callable P g) (hp : s.pin ≤ s.S.length)
    {R : FV → List Ob → Prop} (hcall : WpF P g cargs [] R)
    (hrest : ∀ r S1, R r S1 → ∃ s', setS { s with S := s.S ++ renOs (σ1 s.S.length []) S1 } o.dst (ren (σ1 s.S.length []) r) = some s' ∧ WpO P all rest s' Q) : WpO P all (o :: rest) s Q :=
  WpO.call hw ho hf hx hc hp [] (by simp) (by simp) (argsOk_view hv) ⟨rfl, fun j i c h => by simp at h⟩ hcall (fun r S1 hr => by simpa [setAll, renOs] using hrest r S1 hr)

def D.flat : D → Bool
  | .bool _ | .int _ _ | .str _ | .flt _ _ | .cpx _ _ _ | .nil | .nilp | .nili | .any | .nilm => true
  | _ => false
def D.flats : List D → Bool
  | [] => true
  | x :: r => x.flat && D.flats r
/-- Values that lead nowhere. -/
def flatV : FV → Bool
  | .d (.agg cs) => D.flats cs
  | .d x => x.flat
  | _ => false
def flatVs : List FV → Bool
  | [] => true
  | x :: r => flatV x && flatVs r
def flatR : FV → Bool
  | .tup vs => flatVs vs
  | x => flatV x

theorem D.flat_any {w1 w2 : World} {I1 I2 : Nat → Prop} {x : D} {v : Value} (h : x.flat = true) (hx : DRel w1 I1 x v) : DRel w2 I2 x v := by
  cases x <;> simp [D.flat] at h <;> simpa only [DRel] using hx
theorem D.flats_any {w1 w2 : World} {I1 I2 : Nat → Prop} : ∀ {xs : List D} {vs : List Value}, D.flats xs = true → DRelL w1 I1 xs vs → DRelL w2 I2 xs vs
  | [], vs, _, hx => by simpa only [DRelL] using hx
  | x :: xs, vs, h, hx => by
    simp only [D.flats, Bool.and_eq_true] at h
    simp only [DRelL] at hx ⊢
    obtain ⟨v, r, h1, h2, h3⟩ := hx
    exact ⟨v, r, h1, D.flat_any h.1 h2, D.flats_any h.2 h3⟩
theorem flatV_any {w1 w2 : World} {I1 I2 : Nat → Prop} {L1 L2 : List Lay} {x : FV} {v : Value} (h : flatV x = true) (hx : VRel w1 I1 L1 x v) : VRel w2 I2 L2 x v := by
  unfold flatV at h
  split at h
  · simp only [VRel, DRel] at hx ⊢
    obtain ⟨vs, h1, h2, h3⟩ := hx
    exact ⟨vs, h1, h2, D.flats_any h h3⟩
  · simp only [VRel] at hx ⊢; exact D.flat_any h hx
  · cases h
theorem flatVs_any {w1 w2 : World} {I1 I2 : Nat → Prop} {L1 L2 : List Lay} : ∀ {xs : List FV} {vs : List Value}, flatVs xs = true → VRelL w1 I1 L1 xs vs → VRelL w2 I2 L2 xs vs
  | [], vs, _, hx => by simpa only [VRelL] using hx
  | x :: xs, vs, h, hx => by
    simp only [flatVs, Bool.and_eq_true] at h
    simp only [VRelL] at hx ⊢
    obtain ⟨v, r, h1, h2, h3⟩ := hx
    exact ⟨v, r, h1, flatV_any h.1 h2, flatVs_any h.2 h3⟩
theorem flatR_any {w1 w2 : World} {I1 I2 : Nat → Prop} {L1 L2 : List Lay} {x : FV} {v : Value} (h : flatR x = true) (hx : VRel w1 I1 L1 x v) : VRel w2 I2 L2 x v := by
  unfold flatR at h
  split at h
  · simp only [VRel] at hx ⊢
    obtain ⟨vs, h1, h2⟩ := hx
    exact ⟨vs, h1, flatVs_any h h2⟩
  · exact flatV_any h hx

/-- A call that is lent rows; what it hands back leads nowhere. -/
theorem WpO.callL {fx : Operand} {args : Array Operand} {ts : Array TypeId} {g : FuncId} {caps xs cargs : List FV} (hw : wantS all s o = some true) (ho : o.op = .call { callee := .value fx, args, argTypes := ts })
    (hf : evX s fx = some (.fn g caps)) (hx : evXs s args.toList = some xs) (hv : viewFs true s.S (xs ++ caps) = some cargs) (hc : Callable P g)
    {R : FV → List Ob → Prop} (hcall : WpF P g cargs [] R)
    (hrest : ∀ r S1, R r S1 → flatR r = true ∧ ∃ s', setS s o.dst r = some s' ∧ WpO P all rest s' Q) : WpO P all (o :: rest) s Q := fun w I L a hs => by
  unfold wpList
  rw [if_pos (hs.want hw)]
  refine .inl ?_
  have hfv := hs.evX hf
  simp only [VRel] at hfv
  obtain ⟨cvs, hfv, hcv⟩ := hfv
  unfold Oper.wp
  rw [run_call hc ho hfv, Oper.upon_enter]
  have hargs : VRelL w (lentI I s.S L) [] cargs (args.toList.map a.eval ++ cvs) := viewLs_ok hs [] ((hs.evXs hx).append hcv) hv
  have hOR : OR w (lentI I s.S L) [] [] := ⟨rfl, fun i o l h => by simp at h, by simp [owns], fun b hb => by simp [owns] at hb, hs.imm.more (fun b hb => .inl hb) fun b hb => by
    rcases hb with hb | hb
    · exact hs.imm b hb
    · exact (hs.sep b hb).2⟩
  refine (hcall w _ [] _ hargs hOR).mono fun e w' ⟨r, v, S1, I1, L1, he, hR, hrv, hO1, evo, hle, hlay⟩ => ?_
  subst he
  obtain ⟨hfl, s1, hset, hk⟩ := hrest r S1 hR
  show wpList P all _ rest (a.put o.dst v) w'
  have hkeep : ∀ b, b < w.heap.size → w'.heap[b]? = w.heap[b]? := fun b hb => evo.keep b hb (by simp [owns])
  have h1 : SR w' I L s a := hs.world (fun b hb => hkeep b (hs.imm b hb)) (fun b hb => hkeep b (hs.sep b hb).2) evo.size
  have h2 : Step w I L s w' I L s := ⟨⟨evo.os, evo.tape, evo.output, evo.size, fun b hb _ => hkeep b hb, fun _ h => h, fun _ h => .inl h, fun _ h => .inl h⟩, rfl, fun _ _ => rfl⟩
  obtain ⟨q1, q2⟩ := put_step h1 h2 (flatR_any hfl hrv) hset
  exact wpList_mono (fun e a' w'' p => p.from q2) _ _ _ (hk w' I L _ q1)

/-! ### What a state may be taken for -/

def Gh (s s' : St) : Prop := ∀ w I L a, SR w I L s a → ∃ I' L', SR w I' L' s' a ∧ Step w I L s w I' L' s'

theorem Gh.refl (s : St) : Gh s s := fun _ I L _ hs => ⟨I, L, hs, Step.refl _ _ _ _⟩
theorem Gh.trans {s1 s2 s3 : St} (h : Gh s1 s2) (k : Gh s2 s3) : Gh s1 s3 := fun w I L a hs => by
  obtain ⟨I1, L1, h1, t1⟩ := h w I L a hs
  obtain ⟨I2, L2, h2, t2⟩ := k w I1 L1 a h1
  exact ⟨I2, L2, h2, t1.trans t2⟩
theorem WpC.gh (h : Gh s s') (k : WpC P c s' Q) : WpC P c s Q := fun w I L a hs => by
  obtain ⟨I1, L1, h1, t1⟩ := h w I L a hs
  exact wp_mono (k w I1 L1 a h1) fun _ _ _ p => p.from t1
theorem WpO.gh (h : Gh s s') (k : WpO P all rest s' Q) : WpO P all rest s Q := fun w I L a hs => by
  obtain ⟨I1, L1, h1, t1⟩ := h w I L a hs
  exact wpList_mono (fun _ _ _ p => p.from t1) _ _ _ (k w I1 L1 a h1)
/-- At the end of a piece of code. -/
theorem WpC.post {Q' : Exit → St → Prop} (k : WpC P c s Q') (h : ∀ e s1, Q' e s1 → ∃ s2, Gh s1 s2 ∧ Q e s2) : WpC P c s Q := fun w I L a hs =>
  wp_mono (k w I L a hs) fun e a' w' ⟨s1, I1, L1, q, r, t⟩ => by
    obtain ⟨s2, g, q2⟩ := h e s1 q
    obtain ⟨I2, L2, r2, t2⟩ := g w' I1 L1 a' r
    exact ⟨s2, I2, L2, q2, r2, t.trans t2⟩

/-- Fewer slots are known. -/
theorem Gh.forget {env : List (Nat × FV)} (h : ∀ t x, get env t = some x → get s.env t = some x) : Gh s { s with env := env } := fun _ I L _ hs =>
  ⟨I, L, ⟨fun t x hx => hs.env t x (h t x hx), hs.nt, hs.len, hs.obs, hs.nodup, hs.sep, hs.imm, hs.defers⟩, ⟨Evo.refl _ _ _, rfl, fun _ _ => rfl⟩⟩

def keepE (env : List (Nat × FV)) : List Nat → Option (List (Nat × FV))
  | [] => some []
  | t :: r => (get env t).bind fun x => (keepE env r).map ((t, x) :: ·)

theorem keepE_get {env : List (Nat × FV)} : ∀ {ks : List Nat} {env' : List (Nat × FV)}, keepE env ks = some env' → ∀ t x, get env' t = some x → get env t = some x
  | [], env', h, t, x, hx => by simp [keepE] at h; subst h; simp [get] at hx
  | k :: ks, env', h, t, x, hx => by
    simp only [keepE, Option.bind_eq_some_iff, Option.map_eq_some_iff] at h
    obtain ⟨y, hy, e, he, rfl⟩ := h
    simp only [get] at hx
    by_cases hk : k = t
    · rw [if_pos hk] at hx; cases hx; subst hk; exact hy
    · rw [if_neg hk] at hx; exact keepE_get he t x hx

theorem Gh.keep (ks : List Nat) {env : List (Nat × FV)} (h : keepE s.env ks = some env) : Gh s { s with env := env } := Gh.forget (keepE_get h)

/-- A slot's value is taken for another one. -/
theorem Gh.slot {t : Nat} {x y : FV} (hx : get s.env t = some x) (h : ∀ w I L a v, SR w I L s a → VRel w I L x v → VRel w I L y v) : Gh s { s with env := (t, y) :: s.env } := fun w I L a hs =>
  ⟨I, L, ⟨fun t' z hz => by
    simp only [get] at hz
    by_cases ht : t = t'
    · rw [if_pos ht] at hz; cases hz; subst ht; exact h w I L a _ hs (hs.env t x hx)
    · rw [if_neg ht] at hz; exact hs.env t' z hz, hs.nt, hs.len, hs.obs, hs.nodup, hs.sep, hs.imm, hs.defers⟩, ⟨Evo.refl _ _ _, rfl, fun _ _ => rfl⟩⟩

theorem Gh.view {t : Nat} {x y : FV} (hx : get s.env t = some x) (h : viewF false s.S x = some y) : Gh s { s with env := (t, y) :: s.env } :=
  Gh.slot hx fun _ _ L _ _ hs hv => viewF_ok hs L hv h

/-- Objects in another order, and fewer of them. -/
theorem Gh.renum (perm : List Nat) (hn : perm.Nodup) (hlt : ∀ i ∈ perm, i < s.S.length) {env : List (Nat × FV)} {S : List Ob} (he : ∀ t x, get env t = some x → get s.env t = some (ren (σ0 s.S.length perm) x))
    (hS : PassOk s.S perm S) (hp : ∀ i, i < s.pin → perm[i]? = some i) : Gh s { s with env := env, S := S } := fun w I L a hs => by
  obtain ⟨hlen, hpo⟩ := hS
  have hLc : ∃ Lc : List Lay, Lc.length = perm.length ∧ ∀ (j i : Nat), perm[j]? = some i → Lc[j]? = L[i]? := by
    refine ⟨perm.map fun i => L.getD i (.m 0), by simp, fun j i hj => ?_⟩
    have hi : i < L.length := by rw [hs.len]; exact hlt i (List.mem_of_getElem? hj)
    simp [hj, List.getD, List.getElem?_eq_getElem hi]
  obtain ⟨Lc, hLl, hLc⟩ := hLc
  have hback : ∀ (j : Nat) (l : Lay), L[σ0 s.S.length perm j]? = some l → Lc[j]? = some l := by
    intro j l hl
    by_cases hj : j < perm.length
    · rw [hLc j perm[j] (List.getElem?_eq_getElem hj)]
      simpa [σ0, List.getD, List.getElem?_eq_getElem hj] using hl
    · have : L.length ≤ s.S.length := by rw [hs.len]; exact Nat.le_refl _
      simp [σ0, List.getD, List.getElem?_eq_none (Nat.le_of_not_lt hj), List.getElem?_eq_none this] at hl
  have hcS : ∀ (j : Nat) (c : Ob), S[j]? = some c → ∃ i, perm[j]? = some i ∧ s.S[i]? = some (renO (σ0 s.S.length perm) c) := by
    intro j c hj
    have hjl : j < perm.length := by rw [← hlen]; exact (List.getElem?_eq_some_iff.1 hj).1
    exact ⟨perm[j], List.getElem?_eq_getElem hjl, hpo j _ c (List.getElem?_eq_getElem hjl) hj⟩
  have hinj : ∀ (j j' i : Nat), perm[j]? = some i → perm[j']? = some i → j = j' := by
    intro j j' i h1 h2
    exact (List.getElem?_inj (List.getElem?_eq_some_iff.1 h1).1 hn).1 (h1.trans h2.symm)
  have hmem : ∀ b ∈ owns S Lc, b ∈ owns s.S L := by
    intro b hb
    obtain ⟨j, c, l, h1, h2, h3⟩ := owns_of_mem hb
    obtain ⟨i, h4, h5⟩ := hcS j c h1
    exact owns_mem h5 (by rw [← hLc j i h4]; exact h2) b (by rw [own_ren]; exact h3)
  refine ⟨I, Lc, ⟨fun t x hx => VRel.back hback (hs.env t _ (he t x hx)), hs.nt, by rw [hLl]; exact hlen.symm, fun j c l h1 h2 => ?_, owns_nodup fun j j' c c' l l' hne h1 h2 h3 h4 b hb hb' => ?_, fun b hb => hs.sep b (hmem b hb), hs.imm, hs.defers⟩,
    ⟨⟨rfl, rfl, rfl, Nat.le_refl _, fun _ _ _ => rfl, fun _ h => h, fun _ h => .inl h, fun b hb => .inl (hmem b hb)⟩, rfl, fun i hi => hLc i i (hp i hi)⟩⟩
  · obtain ⟨i, h4, h5⟩ := hcS j c h1
    exact ORel.back hback (hs.obs i _ l h5 (by rw [← hLc j i h4]; exact h2))
  · obtain ⟨i, h5, h6⟩ := hcS j c h1
    obtain ⟨i', h7, h8⟩ := hcS j' c' h3
    have hii : i ≠ i' := fun e => hne (hinj j j' i h5 (e ▸ h7))
    exact owns_apart hs.nodup h6 (by rw [← hLc j i h5]; exact h2) h8 (by rw [← hLc j' i' h7]; exact h4) hii b (by rw [own_ren]; exact hb) (by rw [own_ren]; exact hb')

/-- A row of the call's own is written no more. -/
theorem Gh.freeze {id : Nat} {e : TypeId} {k : Nat} {xs : List D} (hS : s.S[id]? = some (.arr e k xs)) : Gh s { s with S := s.S.set id (.frz k xs) } := fun w I L a hs => by
  have hlt : id < L.length := by rw [hs.len]; exact (List.getElem?_eq_some_iff.1 hS).1
  obtain ⟨l, hl⟩ : ∃ l, L[id]? = some l := ⟨L[id], List.getElem?_eq_getElem hlt⟩
  obtain ⟨d1, d2⟩ := owns_drop (o' := .frz k xs) hS hl (by cases l <;> rfl) hs.nodup
  have hI : ∀ b, I b → (I b ∨ b ∈ own (.arr e k xs) l) := fun b hb => .inl hb
  refine ⟨fun b => I b ∨ b ∈ own (.arr e k xs) l, L, ⟨fun t x hx => VRel.mono (fun _ _ => rfl) hI (fun _ _ h => h) _ _ (hs.env t x hx), hs.nt, by simp [hs.len], ?_, d1, ?_, ?_, hs.defers⟩,
    ⟨⟨rfl, rfl, rfl, Nat.le_refl _, fun _ _ _ => rfl, hI, fun b hb => ?_, fun b hb => .inl (d2 b hb).1⟩, rfl, fun _ _ => rfl⟩⟩
  · intro j oj lj h1 h2
    by_cases hj : id = j
    · subst hj
      have h1' : (s.S.set id (.frz k xs))[id]? = some oj := h1
      rw [List.getElem?_set_self (List.getElem?_eq_some_iff.1 hS).1] at h1'
      cases h1'
      rw [hl] at h2; cases h2
      rcases hs.obs _ _ _ hS hl with ⟨base, cp, vs, rfl, hown, hr⟩ | ⟨hd, rfl, rfl⟩
      · refine ⟨Lay.head base, cp, rfl, ?_⟩
        simp only [DRel]
        have hcap := (sl_cap hs hS hl (show (Lay.a base cp).hdr = some (Lay.head base, cp) from rfl)).1
        refine ⟨_, cp, rfl, hcap, ?_⟩
        by_cases hx0 : xs = []
        · exact .inl hx0
        · right
          have hx1 : 0 < xs.length := by cases xs <;> simp_all
          obtain ⟨b, hb, _⟩ := (sl_cap hs hS hl (show (Lay.a base cp).hdr = some (Lay.head base, cp) from rfl)).2 hx1
          cases hb
          refine ⟨b, 0, vs, rfl, .inr (by simp [own]), ?_, DRelR.mono (fun _ _ => rfl) hI _ _ _ hr⟩
          by_cases h0 : 0 < vs.length
          · obtain ⟨b', hb', hc⟩ := ownsRow_cells hown h0
            cases hb'; exact hc
          · have : vs = [] := List.eq_nil_of_length_eq_zero (by omega)
            subst this
            intro q v hv; simp at hv
      · refine ⟨hd, 0, rfl, ?_⟩
        simp only [DRel]
        exact ⟨hd, 0, rfl, by simp, .inl trivial⟩
    · have h1' : (s.S.set id (.frz k xs))[j]? = some oj := h1
      rw [List.getElem?_set_ne hj] at h1'
      exact ORel.mono (fun _ _ => rfl) hI (fun _ _ h => h) (fun _ _ => rfl) (hs.obs j oj lj h1' h2)
  · intro b hb
    have h1 := d2 b hb
    have h2 := hs.sep b h1.1
    exact ⟨fun h => h.elim h2.1 h1.2, h2.2⟩
  · refine hs.imm.more hI fun b hb => ?_
    rcases hb with hb | hb
    · exact hs.imm b hb
    · exact (hs.sep b (owns_mem hS hl b hb)).2
  · rcases hb with hb | hb
    · exact .inl hb
    · exact .inr (.inl (owns_mem hS hl b hb))

/-- The nil slice is a row of the call's own. -/
theorem Gh.nilArr {t : Nat} (e k : Nat) (hx : get s.env t = some (.d .nil)) (hp : s.pin ≤ s.S.length) : Gh s { s with env := (t, .sl s.S.length 0) :: s.env, S := s.S ++ [.arr e k []] } := fun w I L a hs => by
  have hor : ORel w I (L ++ [.a none 0]) (.arr e k []) (.a none 0) := .inl ⟨none, 0, [], rfl, World.ownsRow_nil w 0 e k, by simp [DRelR]⟩
  have r1 := hs.more (w' := w) (fun _ _ => rfl) (Nat.le_refl _) hor (fun b hb => by simp [own] at hb) (own_nodup _ _)
  have r2 := Step.more (w' := w) hs (fun _ _ => rfl) rfl rfl rfl (Nat.le_refl _) (o := .arr e k []) (l := .a none 0) (fun b hb => by simp [own] at hb) hp
  refine ⟨I, L ++ [.a none 0], ⟨fun t' z hz => ?_, r1.nt, r1.len, r1.obs, r1.nodup, r1.sep, r1.imm, r1.defers⟩, r2.evo, r2.pin, r2.lay⟩
  simp only [get] at hz
  by_cases ht : t = t'
  · rw [if_pos ht] at hz
    cases hz; subst ht
    have h1 := hs.env t _ hx
    simp only [VRel, DRel] at h1 ⊢
    exact ⟨.a none 0, none, 0, by rw [List.getElem?_append_right (by rw [hs.len]; exact Nat.le_refl _), hs.len]; simp, rfl, h1⟩
  · rw [if_neg ht] at hz
    exact r1.env t' z hz

/-! ### Operations, one behind the other -/

/-- One operation that calls no function. -/
def evOp (T : Nat → Option TI) (o : Oper) (s : St) : Option St :=
  match o.op with
  | .alloc t => (T t).bind fun i => if s.pin ≤ s.S.length then setS { s with S := s.S ++ [.cells t (i.zero.map .d)] } o.dst (.ref s.S.length 0) else none
  | .box t x => (evX s x).bind fun v => if plainV v = true ∧ s.pin ≤ s.S.length then setS { s with S := s.S ++ [.cells t (fvCells v)] } o.dst (.ref s.S.length 0) else none
  | .store t p x => (evX s p).bind fun vp => (evX s x).bind fun vx => (evStN T s t vp vx).bind fun S' => setS { s with S := S' } o.dst (.tup [])
  | .makeSlice t l c => (T t).bind fun i => (match i.kind with
    | .slice e => (T e).bind fun ei => (match evX s l, evX s c with
      | some (.d (.int _ n)), some (.d (.int _ m)) => if n = m ∧ 0 ≤ n ∧ ei.bytes ≤ 16384 ∧ n ≤ 8589934592 ∧ okEl ei = true ∧ s.pin ≤ s.S.length then
          setS { s with S := s.S ++ [.arr e ei.size (List.replicate n.toNat ei.zeroD)] } o.dst (.sl s.S.length n.toNat) else none
      | _, _ => none)
    | _ => none)
  | .buildSlice t len parts => (T t).bind fun i => (match i.kind with
    | .slice e => (T e).bind fun ei => (partsD s 0 parts.toList).bind fun xs =>
        if len = xs.length ∧ xs.all (szD ei) = true ∧ len * ei.size ≤ 16777216 ∧ len ≤ 8589934592 ∧ okEl ei = true ∧ s.pin ≤ s.S.length then setS { s with S := s.S ++ [.arr e ei.size xs] } o.dst (.sl s.S.length len) else none
    | _ => none)
  | .build t parts => (evBd T s t parts.toList).bind fun v => setS s o.dst v
  | .makeMap _ none => if s.pin ≤ s.S.length then setS { s with S := s.S ++ [.map [] []] } o.dst (.mp s.S.length) else none
  | .mapUpdate t m k x => (evX s m).bind fun vm => (evX s k).bind fun vk => (evX s x).bind fun vx => (evMu T s t vm vk vx).bind fun S' => setS { s with S := S' } o.dst (.tup [])
  | .call { callee := .builtin .append, args, argTypes } => (match args.toList, argTypes.toList with
    | [sx, yx], [t, u] => (evX s sx).bind fun vx => (evX s yx).bind fun vy => (evAp T s t u vx vy).bind fun p =>
      if s.pin ≤ s.S.length then setS { s with S := p.1 } o.dst (.sl s.S.length p.2) else none
    | _, _ => none)
  | .call { callee := .builtin .copy, args, argTypes } => (match args.toList, argTypes.toList with
    | [dx, yx], [t, _] => (evX s dx).bind fun vx => (evX s yx).bind fun vy => (evCo T s t vx vy).bind fun p => setS { s with S := p.1 } o.dst (.d (.int .i64 p.2))
    | _, _ => none)
  | _ => (evA T s o.op).bind fun x => setS s o.dst x

theorem evOp_ok (hT : TabOk P T) (h : evOp T o s = some s') : OpOk P o s s' := by
  unfold evOp at h
  split at h
  · rename_i t ho
    simp only [Option.bind_eq_some_iff] at h
    obtain ⟨i, hi, h⟩ := h
    split at h
    · rename_i hp; exact OpOk.alloc hT ho hi hp h
    · cases h
  · rename_i t x ho
    simp only [Option.bind_eq_some_iff] at h
    obtain ⟨v, hv, h⟩ := h
    split at h
    · rename_i hp; exact OpOk.box ho hv hp.1 hp.2 h
    · cases h
  · rename_i t p x ho
    simp only [Option.bind_eq_some_iff] at h
    obtain ⟨vp, hp, vx, hx, S', hS, h⟩ := h
    exact OpOk.store hT ho hp hx hS h
  · rename_i t l c ho
    simp only [Option.bind_eq_some_iff] at h
    obtain ⟨i, hi, h⟩ := h
    split at h
    · rename_i e hk
      simp only [Option.bind_eq_some_iff] at h
      obtain ⟨ei, hei, h⟩ := h
      split at h
      · rename_i k1 n k2 m hl hc
        split at h
        · rename_i hcond
          obtain ⟨rfl, h0, hb, hsm, hok, hp⟩ := hcond
          have hn : n.toNat ≤ 8589934592 := by omega
          obtain ⟨q1, q2⟩ := small_bytes hn hb
          exact OpOk.make hT ho hi hk hei hl hc h0 (by rw [Nat.mul_comm]; omega) q2 hok hp h
        · cases h
      · cases h
    · cases h
  · rename_i t len parts ho
    simp only [Option.bind_eq_some_iff] at h
    obtain ⟨i, hi, h⟩ := h
    split at h
    · rename_i e hk
      simp only [Option.bind_eq_some_iff] at h
      obtain ⟨ei, hei, xs, hx, h⟩ := h
      split at h
      · rename_i hcond
        obtain ⟨h1, h2, h3, h4, h5, h6⟩ := hcond
        exact OpOk.lit hT ho hi hk hei hx h1 h2 h3 (by simp only [maxLen]; omega) h5 h6 h
      · cases h
    · cases h
  · rename_i t parts ho
    simp only [Option.bind_eq_some_iff] at h
    obtain ⟨v, hv, h⟩ := h
    exact OpOk.build hT ho hv h
  · rename_i t ho
    split at h
    · rename_i hp; exact OpOk.makeMap ho hp h
    · cases h
  · rename_i t m k x ho
    simp only [Option.bind_eq_some_iff] at h
    obtain ⟨vm, hm, vk, hk, vx, hx, S', hS, h⟩ := h
    exact OpOk.mapUpdate hT ho hm hk hx hS h
  · rename_i args ts ho
    split at h
    · rename_i sx yx t u e1 e2
      simp only [Option.bind_eq_some_iff] at h
      obtain ⟨vx, hx, vy, hy, p, hp, h⟩ := h
      have e1' : args = #[sx, yx] := by apply Array.ext'; simpa using e1
      have e2' : ts = #[t, u] := by apply Array.ext'; simpa using e2
      subst e1'; subst e2'
      split at h
      · rename_i hpin; exact OpOk.append hT ho hx hy (S' := p.1) (n' := p.2) hp hpin h
      · cases h
    · cases h
  · rename_i args ts ho
    split at h
    · rename_i dx yx t u e1 e2
      simp only [Option.bind_eq_some_iff] at h
      obtain ⟨vx, hx, vy, hy, p, hp, h⟩ := h
      have e1' : args = #[dx, yx] := by apply Array.ext'; simpa using e1
      have e2' : ts = #[t, u] := by apply Array.ext'; simpa using e2
      subst e1'; subst e2'
      exact OpOk.copy hT ho hx hy (S' := p.1) (n' := p.2) hp h
    · cases h
  · simp only [Option.bind_eq_some_iff] at h
    obtain ⟨x, hx, h⟩ := h
    exact OpOk.val hT hx h

/-- As many operations as are asked for. -/
def evOps (T : Nat → Option TI) (all : Array Oper) : Nat → List Oper → St → Option (List Oper × St)
  | 0, l, s => some (l, s)
  | _ + 1, [], s => some ([], s)
  | n + 1, o :: l, s => (wantS all s o).bind fun b => ((if b = true then evOp T o s else setS s o.dst (.tup [])) : Option St).bind fun s' => evOps T all n l s'

theorem WpO.run (hT : TabOk P T) : ∀ (n : Nat) {rest rest' : List Oper} {s s' : St}, evOps T all n rest s = some (rest', s') → WpO P all rest' s' Q → WpO P all rest s Q
  | 0, rest, rest', s, s', h, k => by simp [evOps] at h; obtain ⟨rfl, rfl⟩ := h; exact k
  | n + 1, [], rest', s, s', h, k => by simp [evOps] at h; obtain ⟨rfl, rfl⟩ := h; exact k
  | n + 1, o :: l, rest', s, s', h, k => by
    simp only [evOps, Option.bind_eq_some_iff] at h
    obtain ⟨b, hb, s1, h1, h2⟩ := h
    have hk := WpO.run hT n h2 k
    cases b with
    | true => exact WpO.step hb (evOp_ok hT (by simpa using h1)) hk
    | false => exact WpO.skip hb (by simpa using h1) hk

/-- A region that calls no function. -/
theorem WpC.ops (hT : TabOk P T) {id : Nat} {ops : Array Oper} {r : List Oper} (h : evOps T ops ops.size ops.toList s = some (r, s')) (hr : r = []) (k : Q .normal s') : WpC P (.region id ops false) s Q := by
  subst hr
  exact WpC.region (WpO.run hT _ h (WpO.nil k))

end
end Go.Proofs.YtjlamhilnkadcaaGreatDoor.Pay
