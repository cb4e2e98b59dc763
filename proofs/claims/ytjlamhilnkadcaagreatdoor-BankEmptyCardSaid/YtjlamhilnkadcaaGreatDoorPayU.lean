/- Regions that draw their order: events, and that they do not hang on what stands beside. No statement of the seed is proved here. -/
import Derived.Test.YtjlamhilnkadcaaGreatDoorPayQ
namespace Go.Proofs.YtjlamhilnkadcaaGreatDoor.Pay
open Go Go.RowKit
set_option linter.unusedSimpArgs false
set_option linter.unusedVariables false

def opTmps (o : Op) : List Nat := tmpsOf o.operands.toList
def ptrsOf (s : St) : List Operand → List Nat
  | [] => []
  | x :: r => ptrIds (evX s x) ++ ptrsOf s r
/-- The objects that an operation reads. -/
def rdIds (s : St) : Op → List Nat
  | .store _ p _ => ptrIds (evX s p)
  | .load _ p => ptrIds (evX s p)
  | .convert _ _ x => ptrIds (evX s x)
  | .lookup _ x _ _ => ptrIds (evX s x)
  | .mapUpdate _ m _ _ => ptrIds (evX s m)
  | .call { callee := .builtin _, args, .. } => ptrsOf s args.toList
  | _ => []
/-- The objects of which an operation reads how long they are. -/
def shIds (s : St) : Op → List Nat
  | .indexAddr _ x _ => ptrIds (evX s x)
  | .slice _ x _ _ _ => ptrIds (evX s x)
  | _ => []
mutual
/-- The objects that are read where a value is lent. -/
def vids (S : List Ob) : FV → List Nat
  | .ref id _ => id :: (match S[id]? with | some (.cells _ cs) => fidss cs | _ => [])
  | .sl id _ => [id]
  | .er id _ _ _ => [id]
  | .mp id => [id]
  | .so id _ _ _ => [id]
  | .sc id _ _ => [id]
  | .agg cs => vidss S cs
  | .fn _ cs => vidss S cs
  | .tup cs => vidss S cs
  | _ => []
def vidss (S : List Ob) : List FV → List Nat
  | [] => []
  | x :: r => vids S x ++ vidss S r
end

def isSh : Op → Bool
  | .indexAddr _ _ _ => true
  | .slice _ _ _ _ _ => true
  | _ => false

/-- An object's kind, and how long it is. -/
def shp : Ob → Ob
  | .arr e k xs => .arr e k (List.replicate xs.length .nil)
  | .cells _ _ => .gone
  | o => o

def newOk (N nid : Nat) (d : Option Nat) (wr : List Nat) (s1 : St) : Bool :=
  let v := gotE d s1.env
  match s1.S[N]? with
  | none => (fids v).all fun j => decide (j < N)
  | some ob => (oids ob).all (fun j => decide (j < N ∧ j ≠ nid)) && (fids v).all (fun j => decide (j ≤ N ∧ j ≠ nid)) && wr.all (fun i => decide (i ≠ nid) && (oids ((s1.S[i]?).getD .gone)).all fun j => decide (j < N ∧ j ≠ nid))

/-- Numbers of the call's objects, where it was made. -/
def τ1 (N nid : Nat) (perm : List Nat) (j : Nat) : Nat := mvN N nid (σ1 N perm j)
def callS (N nid : Nat) (perm : List Nat) (S0 : List Ob) : List (Nat × Ob) :=
  (match S0.drop perm.length with | ob :: _ => [(nid, renO (τ1 N nid perm) ob)] | [] => []) ++ perm.zip (renOs (τ1 N nid perm) (S0.take perm.length))
def callOkB (N nid : Nat) (perm : List Nat) (r0 : FV) (S0 : List Ob) : Bool :=
  decide (perm.length ≤ S0.length) && decide (S0.length ≤ perm.length + 1) && perm.all (fun i => decide (i < N ∧ i ≠ nid)) && (fids (ren (σ1 N perm) r0)).all (fun j => decide (j < (if S0.length = perm.length then N else N + 1) ∧ j ≠ nid)) &&
    (renOs (σ1 N perm) S0).all fun ob => (oids ob).all fun j => decide (j < (if S0.length = perm.length then N else N + 1) ∧ j ≠ nid)

/-- What operation o leaves at s: event e; rd: the objects that it reads, sh: of which it reads the length. -/
inductive EvOk (P : Program) (T : Nat → Option TI) (all : Array Oper) (o : Oper) (s : St) (nid : Nat) : Ev → List Nat → List Nat → Prop where
  | skip (h : wantS all s o = some false) (hd : ∀ d, o.dst = some d → d < s.nt) : EvOk P T all o s nid ⟨.tup [], []⟩ [] []
  | op {s1 : St} (h : wantS all s o = some true) (h1 : evOp T o (msk s (opTmps o.op) (rdIds s o.op)) = some s1) (h2 : newOk s.S.length nid o.dst (wrIds s o.op) s1 = true) :
      EvOk P T all o s nid (mkEv o.dst s.S.length nid (wrIds s o.op) s1) (rdIds s o.op) []
  | lit {s1 : St} {et k d : Nat} {xs : List D} (h : wantS all s o = some true) (h1 : evOp T o (msk s (opTmps o.op) []) = some s1) (h0 : wrIds s o.op = []) (h2 : s1.S[s.S.length]? = some (.arr et k xs)) (h3 : o.dst = some d)
      (h4 : get s1.env d = some (.sl s.S.length xs.length)) : EvOk P T all o s nid ⟨.d (.list k xs), []⟩ [] []
  | sh {v : FV} (h : wantS all s o = some true) (h0 : isSh o.op = true) (h1 : evA T s o.op = some v) (hd : ∀ d, o.dst = some d → d < s.nt) : EvOk P T all o s nid ⟨v, []⟩ [] (shIds s o.op)
  | eqs {t ty : TypeId} {x y : Operand} {xs ys : List D} {b neg : Bool} (h : wantS all s o = some true) (ho : o.op = .binOp (eqOp neg) t x y ty) (hx : evX s x = some (.d (.agg xs))) (hy : evX s y = some (.d (.agg ys))) (hE : EqT P t xs ys b)
      (hd : ∀ d, o.dst = some d → d < s.nt) : EvOk P T all o s nid ⟨.d (.bool (b ^^ neg)), []⟩ [] []
  | lend {fx : Operand} {args : Array Operand} {ts : Array TypeId} {g : FuncId} {caps xs cargs : List FV} {v : FV} (h : wantS all s o = some true) (ho : o.op = .call { callee := .value fx, args, argTypes := ts })
      (hf : evX s fx = some (.fn g caps)) (hx : evXs s args.toList = some xs) (hv : viewFs true s.S (xs ++ caps) = some cargs) (hc : Callable P g) (hcall : WpF P g cargs [] fun r _ => r = v) (hfl : flatR v = true)
      (hd : ∀ d, o.dst = some d → d < s.nt) : EvOk P T all o s nid ⟨v, []⟩ (vidss s.S (xs ++ caps)) []
  | call {fx : Operand} {args : Array Operand} {ts : Array TypeId} {g : FuncId} {caps xs cargs : List FV} {cS : List Ob} (perm : List Nat) {r0 : FV} {S0 : List Ob} (h : wantS all s o = some true) (ho : o.op = .call { callee := .value fx, args, argTypes := ts })
      (hf : evX s fx = some (.fn g caps)) (hx : evXs s args.toList = some xs) (hc : Callable P g) (hn : perm.Nodup) (ha : ArgsOk s.S perm (xs ++ caps) cargs) (hpass : PassOk s.S perm cS)
      (hcall : WpF P g cargs cS fun r S1 => r = r0 ∧ S1 = S0) (hb : callOkB s.S.length nid perm r0 S0 = true) (hd : ∀ d, o.dst = some d → d < s.nt) :
      EvOk P T all o s nid ⟨ren (mvN s.S.length nid) (ren (σ1 s.S.length perm) r0), callS s.S.length nid perm S0⟩ (vidss s.S (xs ++ caps) ++ perm) []

section
variable {P : Program} {T : Nat → Option TI} {w w' : World} {I I' : Nat → Prop} {L L' : List Lay} {s s' s1 s2 : St} {a : Act} {all ops : Array Oper} {o : Oper} {rest : List Oper} {Q : Exit → St → Prop} {c : Code} {md : Region.Mode}

theorem mem_tmpsOf : ∀ {xs : List Operand} {t : Nat}, .tmp t ∈ xs → t ∈ tmpsOf xs
  | x :: r, t, h => by
    rcases List.mem_cons.1 h with h | h
    · subst h; simp [tmpsOf]
    · have ih := mem_tmpsOf h
      cases x <;> simp [tmpsOf, ih]

theorem evX_congr {xs : List Operand} (he : ∀ t ∈ tmpsOf xs, get s.env t = get s2.env t) {x : Operand} (hx : x ∈ xs) : evX s x = evX s2 x := by
  cases x with
  | tmp t => exact he t (mem_tmpsOf hx)
  | _ => rfl
theorem evXs_congr {xs : List Operand} (he : ∀ x ∈ xs, evX s x = evX s2 x) : evXs s xs = evXs s2 xs := by
  induction xs with
  | nil => rfl
  | cons x r ih => simp only [evXs]; rw [he x (by simp), ih fun y hy => he y (by simp [hy])]
theorem ptrsOf_congr {xs : List Operand} (he : ∀ x ∈ xs, evX s x = evX s2 x) : ptrsOf s xs = ptrsOf s2 xs := by
  induction xs with
  | nil => rfl
  | cons x r ih => simp only [ptrsOf]; rw [he x (by simp), ih fun y hy => he y (by simp [hy])]

theorem wantS_congr (he : ∀ t ∈ looks all o, get s.env t = get s2.env t) : wantS all s o = wantS all s2 o := by
  unfold wantS
  unfold looks at he
  cases hg : o.guard with
  | none => rfl
  | some p =>
    obtain ⟨j, want⟩ := p
    simp only [hg] at he ⊢
    cases hd : (all[j]?).bind (·.dst) with
    | none => rfl
    | some d => simp only; rw [he d (by simp [hd])]

theorem rdIds_congr (he : ∀ x ∈ o.op.operands.toList, evX s x = evX s2 x) : rdIds s o.op = rdIds s2 o.op := by
  unfold rdIds
  split
  · rename_i h; rw [he _ (by simp [h, Op.operands])]
  · rename_i h; rw [he _ (by simp [h, Op.operands])]
  · rename_i h; rw [he _ (by simp [h, Op.operands])]
  · rename_i h; rw [he _ (by simp [h, Op.operands])]
  · rename_i h; rw [he _ (by simp [h, Op.operands])]
  · rename_i h; exact ptrsOf_congr fun x hx => he x (by simp [h, Op.operands, Call.operands]; simpa using hx)
  · rfl
theorem wrIds_congr (he : ∀ x ∈ o.op.operands.toList, evX s x = evX s2 x) : wrIds s o.op = wrIds s2 o.op := by
  unfold wrIds
  split
  · rename_i h; rw [he _ (by simp [h, Op.operands])]
  · rename_i h; rw [he _ (by simp [h, Op.operands])]
  · rename_i args ts h
    split
    · rename_i x r hx; rw [he x (by simp [h, Op.operands, Call.operands]; rw [← Array.mem_toList_iff, hx]; simp)]
    · rfl
  · rename_i args ts h
    split
    · rename_i x r hx; rw [he x (by simp [h, Op.operands, Call.operands]; rw [← Array.mem_toList_iff, hx]; simp)]
    · rfl
  · rfl

theorem shp_arr {o1 o2 : Option Ob} (h : o1.map shp = o2.map shp) {e k : Nat} {xs : List D} (h1 : o1 = some (.arr e k xs)) : ∃ ys, o2 = some (.arr e k ys) ∧ ys.length = xs.length := by
  subst h1
  cases o2 with
  | none => simp at h
  | some ob =>
    simp only [Option.map_some, Option.some.injEq] at h
    cases ob <;> simp [shp] at h
    obtain ⟨rfl, rfl, h⟩ := h
    exact ⟨_, rfl, h.symm⟩
theorem shp_frz {o1 o2 : Option Ob} (h : o1.map shp = o2.map shp) {k : Nat} {xs : List D} (h1 : o1 = some (.frz k xs)) : o2 = some (.frz k xs) := by
  subst h1
  cases o2 with
  | none => simp at h
  | some ob =>
    simp only [Option.map_some, Option.some.injEq] at h
    cases ob <;> simp [shp] at h
    obtain ⟨rfl, rfl⟩ := h
    rfl

theorem sh_congr {v : FV} (h0 : isSh o.op = true) (he : ∀ x ∈ o.op.operands.toList, evX s x = evX s2 x) (hs : ∀ i ∈ shIds s o.op, (s.S[i]?).map shp = (s2.S[i]?).map shp) (h : evA T s o.op = some v) : evA T s2 o.op = some v := by
  cases ho : o.op <;> rw [ho] at h0 h hs he <;> simp only [isSh, reduceCtorEq] at h0
  case indexAddr t x i =>
    simp only [evA, Option.bind_eq_some_iff] at h ⊢
    obtain ⟨vx, hx, vi, hi, h⟩ := h
    refine ⟨vx, by rw [← he x (by simp [Op.operands])]; exact hx, vi, by rw [← he i (by simp [Op.operands])]; exact hi, ?_⟩
    simp only [shIds, hx] at hs
    unfold evIA at h ⊢
    split at h
    · simp only [Option.bind_eq_some_iff] at h ⊢
      obtain ⟨ti, hti, h⟩ := h
      refine ⟨ti, hti, ?_⟩
      split at h
      · simp only [Option.bind_eq_some_iff] at h ⊢
        obtain ⟨ei, hei, h⟩ := h
        refine ⟨ei, hei, ?_⟩
        split at h
        · rename_i id n
          have hq := hs id (by simp [ptrIds])
          split at h
          · rename_i e k xs hS
            obtain ⟨ys, hy, hl⟩ := shp_arr hq hS
            simp only [hy, hl]; exact h
          · rename_i k xs hS
            simp only [shp_frz hq hS]; exact h
          · cases h
        · exact h
        · rename_i id k' off n
          have hq := hs id (by simp [ptrIds])
          split at h
          · rename_i e k xs hS
            obtain ⟨ys, hy, hl⟩ := shp_arr hq hS
            simp only [hy, hl]; exact h
          · cases h
        · cases h
      · exact h
      · cases h
    · cases h
  case slice t x lo hi mx =>
    cases mx with
    | some m => simp [evA] at h
    | none =>
      simp only [evA, Option.bind_eq_some_iff] at h ⊢
      obtain ⟨vx, hx, l, hl, hh, hhi, h⟩ := h
      refine ⟨vx, by rw [← he x (by simp [Op.operands])]; exact hx, l, ?_, hh, ?_, ?_⟩
      · cases lo with
        | none => exact hl
        | some y => simp only [evOpt] at hl ⊢; rw [← he y (by simp [Op.operands])]; exact hl
      · cases hi with
        | none => exact hhi
        | some y => simp only [evOpt] at hhi ⊢; rw [← he y (by simp [Op.operands])]; exact hhi
      · simp only [shIds, hx] at hs
        unfold evSl at h ⊢
        simp only [Option.bind_eq_some_iff] at h ⊢
        obtain ⟨ti, hti, h⟩ := h
        refine ⟨ti, hti, ?_⟩
        split at h
        · exact h
        · exact h
        · rename_i e id n hk
          have hq := hs id (by simp [ptrIds])
          simp only [Option.bind_eq_some_iff] at h ⊢
          obtain ⟨ei, hei, m, hm, n', hn', h⟩ := h
          refine ⟨ei, hei, m, hm, n', hn', ?_⟩
          split at h
          · rename_i e' k xs hS
            obtain ⟨ys, hy, hl'⟩ := shp_arr hq hS
            simp only [hy, hl']; exact h
          · cases h
        · rename_i e id n c hk
          have hq := hs id (by simp [ptrIds])
          simp only [Option.bind_eq_some_iff] at h ⊢
          obtain ⟨ei, hei, m, hm, n', hn', h⟩ := h
          refine ⟨ei, hei, m, hm, n', hn', ?_⟩
          split at h
          · rename_i e' k xs hS
            obtain ⟨ys, hy, hl'⟩ := shp_arr hq hS
            simp only [hy]; exact h
          · cases h
        · cases h

theorem cellD_congr {S S2 : List Ob} {x : FV} (h : ∀ i ∈ fids x, S[i]? = S2[i]?) : cellD S x = cellD S2 x := by
  cases x <;> simp only [cellD]
  rename_i id n
  rw [h id (by simp [fids])]
theorem cellsD_congr {S S2 : List Ob} : ∀ {xs : List FV}, (∀ i ∈ fidss xs, S[i]? = S2[i]?) → cellsD S xs = cellsD S2 xs
  | [], _ => rfl
  | x :: r, h => by simp only [cellsD]; rw [cellD_congr (x := x) fun i hi => h i (by simp [fidss, hi]), cellsD_congr (xs := r) fun i hi => h i (by simp [fidss, hi])]

mutual
theorem viewF_congr {b : Bool} {S S2 : List Ob} : ∀ {x : FV}, (∀ i ∈ vids S x, S[i]? = S2[i]?) → viewF b S x = viewF b S2 x
  | .d x, _ => rfl
  | .ref id off, h => by
    have h0 := h id (by simp [vids])
    simp only [viewF]
    rw [← h0]
    cases hS : S[id]? with
    | none => rfl
    | some ob =>
      cases ob <;> simp only
      rename_i t cs
      rw [cellsD_congr fun i hi => h i (by simp [vids, hS, hi])]
  | .sl id n, h => by simp only [viewF]; rw [h id (by simp [vids])]
  | .er id k i off, _ => rfl
  | .dp cs, _ => rfl
  | .agg cs, h => by simp only [viewF]; rw [viewFs_congr (xs := cs) fun i hi => h i (by simpa [vids] using hi)]
  | .fn f cs, h => by simp only [viewF]; rw [viewFs_congr (xs := cs) fun i hi => h i (by simpa [vids] using hi)]
  | .tup cs, h => by simp only [viewF]; rw [viewFs_congr (xs := cs) fun i hi => h i (by simpa [vids] using hi)]
  | .mp id, h => by simp only [viewF]; rw [h id (by simp [vids])]
  | .so _ _ _ _, _ => rfl
  | .sc _ _ _, _ => rfl
  | .dead, _ => rfl
theorem viewFs_congr {b : Bool} {S S2 : List Ob} : ∀ {xs : List FV}, (∀ i ∈ vidss S xs, S[i]? = S2[i]?) → viewFs b S xs = viewFs b S2 xs
  | [], _ => rfl
  | x :: r, h => by simp only [viewFs]; rw [viewF_congr (x := x) fun i hi => h i (by simp [vidss, hi]), viewFs_congr (xs := r) fun i hi => h i (by simp [vidss, hi])]
end

mutual
theorem vids_congr {S S2 : List Ob} : ∀ {x : FV}, (∀ i ∈ vids S x, S[i]? = S2[i]?) → vids S x = vids S2 x
  | .d x, _ => rfl
  | .ref id off, h => by simp only [vids]; rw [h id (by simp [vids])]
  | .sl id n, _ => rfl
  | .er id k i off, _ => rfl
  | .dp cs, _ => rfl
  | .agg cs, h => by simp only [vids]; exact vidss_congr (xs := cs) fun i hi => h i (by simpa [vids] using hi)
  | .fn f cs, h => by simp only [vids]; exact vidss_congr (xs := cs) fun i hi => h i (by simpa [vids] using hi)
  | .tup cs, h => by simp only [vids]; exact vidss_congr (xs := cs) fun i hi => h i (by simpa [vids] using hi)
  | .mp id, _ => rfl
  | .so _ _ _ _, _ => rfl
  | .sc _ _ _, _ => rfl
  | .dead, _ => rfl
theorem vidss_congr {S S2 : List Ob} : ∀ {xs : List FV}, (∀ i ∈ vidss S xs, S[i]? = S2[i]?) → vidss S xs = vidss S2 xs
  | [], _ => rfl
  | x :: r, h => by simp only [vidss]; rw [vids_congr (x := x) fun i hi => h i (by simp [vidss, hi]), vidss_congr (xs := r) fun i hi => h i (by simp [vidss, hi])]
end

theorem argsOk_congr {S S2 : List Ob} {perm : List Nat} (hl : S.length = S2.length) : ∀ {xs cs : List FV}, (∀ i ∈ vidss S xs, S[i]? = S2[i]?) → ArgsOk S perm xs cs → ArgsOk S2 perm xs cs
  | [], [], _, h => h
  | [], _ :: _, _, h => h.elim
  | _ :: _, [], _, h => h.elim
  | x :: xs, c :: cs, hi, h => by
    simp only [ArgsOk] at h ⊢
    refine ⟨?_, argsOk_congr hl (fun i h' => hi i (by simp [vidss, h'])) h.2⟩
    rcases h.1 with h1 | h1
    · exact .inl (by rw [← hl]; exact h1)
    · exact .inr (by rw [← viewF_congr fun i h' => hi i (by simp [vidss, h'])]; exact h1)

/-- An event hangs on what the operation looks at. -/
theorem EvOk.congr {nid : Nat} {e : Ev} {rd sh : List Nat} (h : EvOk P T all o s nid e rd sh) (hl : s.S.length = s2.S.length) (hn : s.nt = s2.nt) (he : ∀ t ∈ looks all o, get s.env t = get s2.env t)
    (hr : ∀ i ∈ rd, s.S[i]? = s2.S[i]?) (hsh : ∀ i ∈ sh, (s.S[i]?).map shp = (s2.S[i]?).map shp) : EvOk P T all o s2 nid e rd sh := by
  have hw := wantS_congr he
  have hx : ∀ x ∈ o.op.operands.toList, evX s x = evX s2 x := fun x hx => evX_congr (fun t ht => he t (by unfold looks; exact List.mem_append_left _ ht)) hx
  cases h with
  | skip h hd => exact .skip (hw ▸ h) (hn ▸ hd)
  | @op s1 h h1 h2 =>
    have e1 := rdIds_congr (o := o) hx
    have e2 := wrIds_congr (o := o) hx
    have e3 : msk s (opTmps o.op) (rdIds s o.op) = msk s2 (opTmps o.op) (rdIds s2 o.op) := by
      unfold msk
      rw [mskE_congr (fun t ht => he t (by unfold looks; exact List.mem_append_left _ ht)), mskS_congr hl hr, hn, hl, e1]
    rw [e1, e2, hl]
    refine .op (hw ▸ h) (e3 ▸ h1) ?_
    rw [← hl, ← e2]; exact h2
  | @lit s1 et k d xs h h1 h0 h2 h3 h4 =>
    have e3 : msk s (opTmps o.op) [] = msk s2 (opTmps o.op) [] := by
      unfold msk
      rw [mskE_congr (fun t ht => he t (by unfold looks; exact List.mem_append_left _ ht)), mskS_congr hl (by simp), hn, hl]
    exact .lit (hw ▸ h) (e3 ▸ h1) (by rw [← wrIds_congr hx]; exact h0) (by rw [← hl]; exact h2) h3 (by rw [← hl]; exact h4)
  | sh h h0 h1 hd =>
    have e1 : shIds s o.op = shIds s2 o.op := by
      unfold shIds
      split
      · rename_i ho; rw [hx _ (by simp [ho, Op.operands])]
      · rename_i ho; rw [hx _ (by simp [ho, Op.operands])]
      · rfl
    rw [e1]
    exact .sh (hw ▸ h) h0 (sh_congr h0 hx hsh h1) (hn ▸ hd)
  | eqs h ho h1 h2 hE hd => exact .eqs (hw ▸ h) ho (by rw [← hx _ (by simp [ho, Op.operands])]; exact h1) (by rw [← hx _ (by simp [ho, Op.operands])]; exact h2) hE (hn ▸ hd)
  | @lend fx args ts g caps xs cargs v h ho hf hxs hv hc hcall hfl hd =>
    have hx1 : evX s fx = evX s2 fx := hx fx (by simp [ho, Op.operands, Call.operands])
    have hx2 : evXs s args.toList = evXs s2 args.toList := evXs_congr fun x hx' => hx x (by simp [ho, Op.operands, Call.operands]; exact .inr (by simpa using hx'))
    rw [vidss_congr hr]
    exact .lend (hw ▸ h) ho (hx1 ▸ hf) (hx2 ▸ hxs) (by rw [← viewFs_congr hr]; exact hv) hc hcall hfl (hn ▸ hd)
  | @call fx args ts g caps xs cargs cS perm r0 S0 h ho hf hxs hc hnd ha hpass hcall hb hd =>
    have hx1 : evX s fx = evX s2 fx := hx fx (by simp [ho, Op.operands, Call.operands])
    have hx2 : evXs s args.toList = evXs s2 args.toList := evXs_congr fun x hx' => hx x (by simp [ho, Op.operands, Call.operands]; exact .inr (by simpa using hx'))
    rw [vidss_congr fun i hi => hr i (List.mem_append_left _ hi), hl]
    refine .call perm (hw ▸ h) ho (hx1 ▸ hf) (hx2 ▸ hxs) hc hnd (argsOk_congr hl (fun i hi => hr i (List.mem_append_left _ hi)) ha) ⟨hpass.1, fun j i c hj hc' => ?_⟩ hcall (hl ▸ hb) (hn ▸ hd)
    rw [← hl, ← hr i (List.mem_append_right _ (List.mem_of_getElem? hj))]
    exact hpass.2 j i c hj hc'
end
end Go.Proofs.YtjlamhilnkadcaaGreatDoor.Pay
