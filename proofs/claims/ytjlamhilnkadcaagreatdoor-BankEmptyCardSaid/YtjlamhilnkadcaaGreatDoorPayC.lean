/- What an operation that turns no memory gives, over abstract data; and that it gives just that. No statement of the seed is proved here. -/
import Derived.Test.YtjlamhilnkadcaaGreatDoorPayB
import Derived.Lib.Strings
namespace Go.Proofs.YtjlamhilnkadcaaGreatDoor.Pay
open Go Go.RowKit
set_option linter.unusedVariables false
set_option linter.unusedSimpArgs false

inductive TK where
  | int (k : IntKind)
  | bool
  | str
  | flt (k : FloatKind)
  | cpx (k : FloatKind)
  | slice (e : Nat)
  | struct (fs : List (Nat × Nat))
  | array (n e : Nat)
  | ptr (e : Nat)
  | map (k e : Nat)
  | iface
  | other

/-- What is known of a type: its kind, its cells, its bytes, its zero value's cells. -/
structure TI where
  kind : TK
  size : Nat
  bytes : Nat
  zero : List D

def TI.ag (i : TI) : Bool := match i.kind with
  | .struct _ | .array _ _ => true
  | _ => false

def ofLeaf : Value → Option D
  | .bool b => some (.bool b)
  | .int k n => some (.int k n)
  | .string s => some (.str s.data.toList)
  | .float k b => some (.flt k b)
  | .complex k a b => some (.cpx k a b)
  | .slice none 0 0 => some .nil
  | .pointer none => some .nilp
  | .nilIface => some .nili
  | .map none => some .nilm
  | _ => none

def ofLeaves : List Value → Option (List D)
  | [] => some []
  | v :: r => (ofLeaf v).bind fun x => (ofLeaves r).map (x :: ·)

def ofVal : Value → Option D
  | .agg cs => (ofLeaves cs.toList).map .agg
  | v => ofLeaf v

def TKOk (P : Program) (t : TypeId) : TK → Prop
  | .int k => P.underlying t = some (.int k)
  | .bool => P.underlying t = some .bool
  | .str => P.underlying t = some .string
  | .flt k => P.underlying t = some (.float k)
  | .cpx k => P.underlying t = some (.complex k)
  | .slice e => P.underlying t = some (.slice e)
  | .struct fs => ∃ a : Array Field, P.underlying t = some (.struct a) ∧ a.toList.map (fun f => (f.offset, f.type)) = fs
  | .array n e => P.underlying t = some (.array n e)
  | .ptr e => P.underlying t = some (.pointer e)
  | .map k e => P.underlying t = some (.map k e)
  | .iface => ∃ ms, P.underlying t = some (.interface ms)
  | .other => ∃ d, P.underlying t = some d ∧ (match d with | .struct _ | .array _ _ | .interface _ => False | _ => True)

structure TIOk (P : Program) (t : TypeId) (i : TI) : Prop where
  kind : TKOk P t i.kind
  info : ∃ j z, P.info? t = some j ∧ j.size = i.size ∧ j.bytes = i.bytes ∧ j.zero = some z ∧ ofLeaves z.cells.toList = some i.zero ∧ z.cells.size = i.size
  one : i.ag = false → ∃ j z, P.info? t = some j ∧ j.zero = some z ∧ z.oneCell' = true

def TabOk (P : Program) (T : Nat → Option TI) : Prop := ∀ t i, T t = some i → TIOk P t i

theorem ofLeaf_ok {w : World} {I : Nat → Prop} : ∀ {v : Value} {x : D}, ofLeaf v = some x → DRel w I x v ∧ v.oneCell' = true ∧ x.cs = [x] := by
  intro v x h
  unfold ofLeaf at h
  split at h <;> simp at h <;> subst h <;> simp [DRel, Value.oneCell', D.cs]

theorem ofLeaves_ok {w : World} {I : Nat → Prop} : ∀ {vs : List Value} {xs : List D}, ofLeaves vs = some xs → DRelL w I xs vs ∧ Ones vs
  | [], xs, h => by simp [ofLeaves] at h; subst h; simp [DRelL, Ones]
  | v :: r, xs, h => by
    simp only [ofLeaves, Option.bind_eq_some_iff, Option.map_eq_some_iff] at h
    obtain ⟨x, hx, ys, hy, rfl⟩ := h
    obtain ⟨h1, h2, _⟩ := ofLeaf_ok (w := w) (I := I) hx
    obtain ⟨h3, h4⟩ := ofLeaves_ok (w := w) (I := I) hy
    refine ⟨by simp only [DRelL]; exact ⟨v, r, rfl, h1, h3⟩, fun u hu => ?_⟩
    rcases List.mem_cons.1 hu with rfl | hu
    · exact h2
    · exact h4 u hu

theorem ofVal_ok {w : World} {I : Nat → Prop} {v : Value} {x : D} (h : ofVal v = some x) : DRel w I x v := by
  unfold ofVal at h
  split at h
  · rename_i cs
    simp only [Option.map_eq_some_iff] at h
    obtain ⟨xs, hx, rfl⟩ := h
    obtain ⟨h1, h2⟩ := ofLeaves_ok (w := w) (I := I) hx
    simp only [DRel]
    exact ⟨cs.toList, by simp, h2, h1⟩
  · exact (ofLeaf_ok h).1

def evX (s : St) : Operand → Option FV
  | .tmp t => get s.env t
  | .const v => (ofVal v).map .d
  | .func f => some (.fn f [])
  | .global _ => none

section
variable {P : Program} {T : Nat → Option TI} {w : World} {I : Nat → Prop} {L : List Lay} {s : St} {a : Act}

theorem SR.evX (hs : SR w I L s a) {x : Operand} {v : FV} (h : evX s x = some v) : VRel w I L v (a.eval x) := by
  cases x with
  | tmp t => exact hs.env t v h
  | const c =>
    simp only [Pay.evX, Option.map_eq_some_iff] at h
    obtain ⟨x, hx, rfl⟩ := h
    simp only [VRel, Act.eval]
    exact ofVal_ok hx
  | func f =>
    simp only [Pay.evX, Option.some.injEq] at h
    subst h
    simp [VRel, Act.eval, VRelL]
  | global g => cases h

theorem runU {t : TypeId} {d : TypeDesc} (h : P.underlying t = some d) : (underlying t).run P w = .ok d w := run_underlying h w

/-- The zero value of a type of one cell. -/
theorem TIOk.zero1 {t : TypeId} {i : TI} (h : TIOk P t i) (hag : i.ag = false) : ∃ z d, (Go.zeroValue t).run P w = .ok z w ∧ i.zero = [d] ∧ DRel w I d z := by
  obtain ⟨j, z, hj, hz, h1⟩ := h.one hag
  obtain ⟨j', z', hj', _, _, hz', h4, _⟩ := h.info
  rw [hj] at hj'; cases hj'
  rw [hz] at hz'; cases hz'
  have hc : z.cells.toList = [z] := by cases z <;> simp_all [Value.oneCell', Value.cells]
  rw [hc] at h4
  obtain ⟨hr, _⟩ := ofLeaves_ok (w := w) (I := I) h4
  refine ⟨z, (i.zero.headD .nil), by simp [Go.zeroValue, typeInfo, hj, hz], ?_, ?_⟩
  all_goals
    cases hi : i.zero with
    | nil => rw [hi] at hr; simp [DRelL] at hr
    | cons x r =>
      rw [hi] at hr
      simp only [DRelL, List.cons.injEq] at hr
      obtain ⟨v, r', ⟨rfl, rfl⟩, h2, h3⟩ := hr
      cases r with
      | nil => first | rfl | exact h2
      | cons y ys => simp [DRelL] at h3

theorem TIOk.sizeOf {t : TypeId} {i : TI} (h : TIOk P t i) : (sizeOf t).run P w = .ok i.size w := by
  obtain ⟨j, z, hj, h1, _⟩ := h.info
  simp [Go.sizeOf, typeInfo, hj, h1]

theorem TIOk.zeroValue {t : TypeId} {i : TI} (h : TIOk P t i) : ∃ z, (zeroValue t).run P w = .ok z w ∧ ofLeaves z.cells.toList = some i.zero ∧ z.cells.size = i.size := by
  obtain ⟨j, z, hj, h1, _, h3, h4, h5⟩ := h.info
  exact ⟨z, by simp [Go.zeroValue, typeInfo, hj, h3], h4, h5⟩

theorem TIOk.isAgg {t : TypeId} {i : TI} (h : TIOk P t i) : (isAgg t).run P w = .ok i.ag w := by
  have hk := h.kind
  unfold TI.ag
  cases hkd : i.kind <;> rw [hkd] at hk <;> simp only [TKOk] at hk
  case struct => obtain ⟨f, hf, _⟩ := hk; simp [Go.isAgg, runU hf]
  case iface => obtain ⟨f, hf⟩ := hk; simp [Go.isAgg, runU hf]
  case other =>
    obtain ⟨d, hd, hn⟩ := hk
    cases d <;> simp_all [Go.isAgg, run_underlying hd]
  all_goals simp [Go.isAgg, runU hk]

/-! ### Operators -/

def evInt (op : BinOp) (k : IntKind) (a b : Int) : Option D :=
  match op with
  | .add => some (.int k (k.wrap (a + b)))
  | .sub => some (.int k (k.wrap (a - b)))
  | .mul => some (.int k (k.wrap (a * b)))
  | .quo => if b = 0 then none else some (.int k (k.wrap (a.tdiv b)))
  | .rem => if b = 0 then none else some (.int k (a.tmod b))
  | .and => some (.int k (bits .and k a b))
  | .or => some (.int k (bits .or k a b))
  | .xor => some (.int k (bits .xor k a b))
  | .andNot => some (.int k (bits .andNot k a b))
  | .eql => some (.bool (a == b))
  | .neq => some (.bool (a != b))
  | .lss => some (.bool (decide (a < b)))
  | .leq => some (.bool (decide (a ≤ b)))
  | .gtr => some (.bool (decide (b < a)))
  | .geq => some (.bool (decide (b ≤ a)))
  | _ => none

def evStr (op : BinOp) (a b : List UInt8) : Option D :=
  match op with
  | .add => if ((a.length + b.length : Nat) : Int) > 9223372036854775807 then none else some (.str (a ++ b))
  | .eql => some (.bool (a == b))
  | .neq => some (.bool (!(a == b)))
  | _ => none

def evFlt (op : BinOp) (k : FloatKind) (a b : Nat) : Option D :=
  match op with
  | .add => (k.format.add a b).map (.flt k ·)
  | .sub => (k.format.sub a b).map (.flt k ·)
  | .eql => some (.bool (k.format.order a b == some .eq))
  | .neq => some (.bool (k.format.order a b != some .eq))
  | _ => none

def evCpx (op : BinOp) (k : FloatKind) (a b c d : Nat) : Option D :=
  match op with
  | .add => (k.format.add a c).bind fun x => (k.format.add b d).map fun y => .cpx k x y
  | .eql => some (.bool (k.format.order a c == some .eq && k.format.order b d == some .eq))
  | .neq => some (.bool (!(k.format.order a c == some .eq && k.format.order b d == some .eq)))
  | _ => none

def evBin (T : Nat → Option TI) (op : BinOp) (t : TypeId) (x y : FV) : Option D :=
  match x, y with
  | .d (.int k a), .d (.int k' b) => if k = k' then (match op with
    | .shl => if 0 ≤ b then some (.int k (k.wrap (a * 2 ^ (min b.toNat k.bits)))) else none
    | .shr => if 0 ≤ b then some (.int k (a.fdiv (2 ^ (min b.toNat k.bits)))) else none
    | _ => evInt op k a b) else none
  | .d (.str a), .d (.str b) => evStr op a b
  | .d (.flt k a), .d (.flt k' b) => if k = k' then evFlt op k a b else none
  | .d (.cpx k a b), .d (.cpx k' c d) => if k = k' then evCpx op k a b c d else none
  | .d (.bool a), .d (.bool b) => match T t with
    | some ⟨.bool, _, _, _⟩ => (match op with
      | .eql => some (.bool (a == b))
      | .neq => some (.bool (!(a == b)))
      | _ => none)
    | _ => none
  | .d .any, .d .nili => match T t with
    | some ⟨.iface, _, _, _⟩ => (match op with
      | .eql => some (.bool false)
      | .neq => some (.bool true)
      | _ => none)
    | _ => none
  | .d .nili, .d .nili => match T t with
    | some ⟨.iface, _, _, _⟩ => (match op with
      | .eql => some (.bool true)
      | .neq => some (.bool false)
      | _ => none)
    | _ => none
  | .ref _ _, .d .nilp => match T t with
    | some ⟨.ptr _, _, _, _⟩ => (match op with
      | .eql => some (.bool false)
      | .neq => some (.bool true)
      | _ => none)
    | _ => none
  | _, _ => none

theorem evInt_ok {op : BinOp} {k : IntKind} {m n : Int} {t : TypeId} {z : D} (h : evInt op k m n = some z) :
    ∃ v, (∀ w' : World, (binOp op t (.int k m) (.int k n)).run P w' = .ok v w') ∧ DRel w I z v := by
  cases op <;> simp only [evInt, Option.some.injEq, reduceCtorEq] at h
  case quo =>
    split at h
    · cases h
    · rename_i hb; cases h; exact ⟨_, fun _ => by simp [binOp, Op.intDiv, hb]; rfl, by simp [DRel]⟩
  case rem =>
    split at h
    · cases h
    · rename_i hb; cases h; exact ⟨_, fun _ => by simp [binOp, Op.intDiv, hb]; rfl, by simp [DRel]⟩
  all_goals (subst h; exact ⟨_, fun _ => by simp [binOp, Op.intArith, Op.intCmp, intBits_and, intBits_or, intBits_xor, intBits_andNot]; rfl, by simp [DRel]⟩)

theorem bytes_beq (x y : List UInt8) : ((⟨x.toArray⟩ : ByteArray).toList == (⟨y.toArray⟩ : ByteArray).toList) = (x == y) := by
  rw [Lib.toList_data, Lib.toList_data]

theorem evStr_ok {op : BinOp} {x y : List UInt8} {t : TypeId} {z : D} (h : evStr op x y = some z) :
    ∃ v, (∀ w' : World, (binOp op t (.string ⟨x.toArray⟩) (.string ⟨y.toArray⟩)).run P w' = .ok v w') ∧ DRel w I z v := by
  cases op <;> simp only [evStr, Option.some.injEq, reduceCtorEq] at h
  case add =>
    split at h
    · cases h
    · rename_i hb
      cases h
      refine ⟨.string ⟨(x ++ y).toArray⟩, fun w' => ?_, by simp only [DRel]⟩
      have hsz : ((⟨x.toArray⟩ : ByteArray).size : Nat) = x.length := by simp [ByteArray.size]
      have hsz2 : ((⟨y.toArray⟩ : ByteArray).size : Nat) = y.length := by simp [ByteArray.size]
      simp only [binOp, Op.stringOp, hsz, hsz2, IntKind.max_i64, if_neg hb, Sem.run_pure]
      rfl
  case eql => subst h; exact ⟨_, fun _ => by simp only [binOp, Op.stringOp, Sem.run_pure]; rfl, by simp only [DRel, bytes_beq]⟩
  case neq => subst h; exact ⟨_, fun _ => by simp only [binOp, Op.stringOp, Sem.run_pure]; rfl, by simp only [DRel, bytes_beq]⟩

theorem evFlt_ok {op : BinOp} {k : FloatKind} {m n : Nat} {t : TypeId} {z : D} (h : evFlt op k m n = some z) :
    ∃ v, (∀ w' : World, (binOp op t (.float k m) (.float k n)).run P w' = .ok v w') ∧ DRel w I z v := by
  cases op <;> simp only [evFlt, Option.some.injEq, reduceCtorEq, Option.map_eq_some_iff] at h
  case add => obtain ⟨r, hr, rfl⟩ := h; exact ⟨_, fun _ => by simp [binOp, Op.floatArith, hr]; rfl, by simp [DRel]⟩
  case sub => obtain ⟨r, hr, rfl⟩ := h; exact ⟨_, fun _ => by simp [binOp, Op.floatArith, hr]; rfl, by simp [DRel]⟩
  all_goals (subst h; exact ⟨_, fun _ => by simp [binOp, Op.floatCmp]; rfl, by simp [DRel]⟩)

theorem evCpx_ok {op : BinOp} {k : FloatKind} {m n p q : Nat} {t : TypeId} {z : D} (h : evCpx op k m n p q = some z) :
    ∃ v, (∀ w' : World, (binOp op t (.complex k m n) (.complex k p q)).run P w' = .ok v w') ∧ DRel w I z v := by
  cases op <;> simp only [evCpx, Option.some.injEq, reduceCtorEq, Option.map_eq_some_iff, Option.bind_eq_some_iff] at h
  case add =>
    obtain ⟨r, hr, r', hr', rfl⟩ := h
    exact ⟨_, fun _ => by simp [binOp, Op.complexOp, Op.Complex.arith, Op.floatArith, hr, hr']; rfl, by simp [DRel]⟩
  all_goals (subst h; exact ⟨_, fun _ => by simp [binOp, Op.complexOp, Op.Complex.cmp, Op.floatCmp, asBool]; rfl, by simp [DRel]⟩)

theorem eqIn_bool (d : Nat) {t : TypeId} (m n : Bool) (hk : P.underlying t = some .bool) : (Op.equalIn (d + 1) t (.bool m) (.bool n)).run P w = .ok (m == n) w := by
  simp [Op.equalIn, runU hk]
theorem eqIn_any (d : Nat) {t u : TypeId} {v : Value} {ms : Array (String × TypeId)} (hk : P.underlying t = some (.interface ms)) : (Op.equalIn (d + 1) t (.iface u v) .nilIface).run P w = .ok false w := by
  simp [Op.equalIn, runU hk]
theorem eqIn_nil (d : Nat) {t : TypeId} {ms : Array (String × TypeId)} (hk : P.underlying t = some (.interface ms)) : (Op.equalIn (d + 1) t .nilIface .nilIface).run P w = .ok true w := by
  simp [Op.equalIn, runU hk]
theorem eqIn_ptr (d : Nat) {t e : TypeId} {b : Addr} (hk : P.underlying t = some (.pointer e)) : (Op.equalIn (d + 1) t (.pointer (some b)) (.pointer none)).run P w = .ok false w := by
  simp [Op.equalIn, runU hk]

theorem run_eql_of {t : TypeId} {x y : Value} {r : Bool} (h1 : binOp .eql t x y = (do pure (.bool (← Op.equal t x y)))) (h : ∀ d, (Op.equalIn (d + 1) t x y).run P w = .ok r w) :
    (binOp .eql t x y).run P w = .ok (.bool r) w := by
  have := h 9999
  rw [h1]
  unfold Op.equal Op.maxDepth
  simp [this]
theorem run_neq_of {t : TypeId} {x y : Value} {r : Bool} (h1 : binOp .neq t x y = (do pure (.bool (!(← Op.equal t x y))))) (h : ∀ d, (Op.equalIn (d + 1) t x y).run P w = .ok r w) :
    (binOp .neq t x y).run P w = .ok (.bool !r) w := by
  have := h 9999
  rw [h1]
  unfold Op.equal Op.maxDepth
  simp [this]

theorem evBin_ok (hT : TabOk P T) {op : BinOp} {t : TypeId} {x y : FV} {vx vy : Value} {z : D} (hx : VRel w I L x vx) (hy : VRel w I L y vy) (h : evBin T op t x y = some z) :
    ∃ v, (∀ w' : World, (binOp op t vx vy).run P w' = .ok v w') ∧ DRel w I z v := by
  unfold evBin at h
  split at h
  · rename_i k m k' n
    simp only [VRel, DRel] at hx hy
    subst hx; subst hy
    split at h
    · rename_i hk; subst hk
      split at h
      · split at h
        · rename_i hb; cases h; exact ⟨_, fun _ => by simp [binOp, Op.shift, Int.not_lt.2 hb]; rfl, by simp [DRel]⟩
        · cases h
      · split at h
        · rename_i hb; cases h; exact ⟨_, fun _ => by simp [binOp, Op.shift, Int.not_lt.2 hb]; rfl, by simp [DRel]⟩
        · cases h
      · exact evInt_ok h
    · cases h
  · simp only [VRel, DRel] at hx hy; subst hx; subst hy; exact evStr_ok h
  · simp only [VRel, DRel] at hx hy; subst hx; subst hy
    split at h
    · rename_i hk; subst hk; exact evFlt_ok h
    · cases h
  · simp only [VRel, DRel] at hx hy; subst hx; subst hy
    split at h
    · rename_i hk; subst hk; exact evCpx_ok h
    · cases h
  · simp only [VRel, DRel] at hx hy; subst hx; subst hy
    split at h
    · rename_i hi
      have hk := (hT _ _ hi).kind
      simp only [TKOk] at hk
      split at h
      · cases h; exact ⟨_, fun _ => run_eql_of rfl (fun d => eqIn_bool d _ _ hk), by simp [DRel]⟩
      · cases h; exact ⟨_, fun _ => run_neq_of rfl (fun d => eqIn_bool d _ _ hk), by simp [DRel]⟩
      · cases h
    · cases h
  · simp only [VRel, DRel] at hx hy; obtain ⟨tt, u, rfl⟩ := hx; subst hy
    split at h
    · rename_i hi
      have hk := (hT _ _ hi).kind
      simp only [TKOk] at hk
      obtain ⟨ms, hk⟩ := hk
      split at h
      · cases h; exact ⟨_, fun _ => run_eql_of rfl (fun d => eqIn_any d  hk), by simp [DRel]⟩
      · cases h; exact ⟨_, fun _ => run_neq_of rfl (fun d => eqIn_any d  hk), by simp [DRel]⟩
      · cases h
    · cases h
  · simp only [VRel, DRel] at hx hy; subst hx; subst hy
    split at h
    · rename_i hi
      have hk := (hT _ _ hi).kind
      simp only [TKOk] at hk
      obtain ⟨ms, hk⟩ := hk
      split at h
      · cases h; exact ⟨_, fun _ => run_eql_of rfl (fun d => eqIn_nil d  hk), by simp [DRel]⟩
      · cases h; exact ⟨_, fun _ => run_neq_of rfl (fun d => eqIn_nil d  hk), by simp [DRel]⟩
      · cases h
    · cases h
  · simp only [VRel, DRel] at hx hy; obtain ⟨b, _, rfl⟩ := hx; subst hy
    split at h
    · rename_i hi
      have hk := (hT _ _ hi).kind
      simp only [TKOk] at hk
      split at h
      · cases h; exact ⟨_, fun _ => run_eql_of rfl (fun d => eqIn_ptr d  hk), by simp [DRel]⟩
      · cases h; exact ⟨_, fun _ => run_neq_of rfl (fun d => eqIn_ptr d  hk), by simp [DRel]⟩
      · cases h
    · cases h
  · cases h

end
end Go.Proofs.YtjlamhilnkadcaaGreatDoor.Pay
