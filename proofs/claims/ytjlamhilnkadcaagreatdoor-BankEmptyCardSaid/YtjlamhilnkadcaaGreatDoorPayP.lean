/- What walks share: numbers, rows of numbers told by a function, pieces of lists. No statement of the seed is proved here. -/
import Derived.Test.YtjlamhilnkadcaaGreatDoorPayT
namespace Go.Proofs.YtjlamhilnkadcaaGreatDoor.Pay
open Go Go.Proofs
set_option linter.unusedVariables false
set_option linter.unusedSimpArgs false

section
variable {id : Nat} {ops : Array Oper} {c : Code} {s s' : St} {Q : Exit → St → Prop}
/-- Regions, over this seat's table. -/
theorem qR (h : evOps tab ops ops.size ops.toList s = some ([], s')) (k : seqQ Tryz.prog c Q .normal s') : WpC Tryz.prog (.seq (.region id ops false) c) s Q := WpC.seq (WpC.ops tabOk h rfl k)
theorem qr (h : evOps tab ops ops.size ops.toList s = some ([], s')) (k : Q .normal s') : WpC Tryz.prog (.region id ops false) s Q := WpC.ops tabOk h rfl k
end
@[reducible] def dI (n : Int) : D := .int .i64 n
theorem take_all {α : Type} (p : α → Bool) {l : List α} {k : Nat} (h : k < l.length) : (l.take (k + 1)).all p = ((l.take k).all p && p l[k]) := by
  rw [List.take_add_one, List.getElem?_eq_getElem h]; simp only [Option.toList_some, List.all_append, List.all_cons, List.all_nil, Bool.and_true]
theorem any_take {α : Type} (f : α → Bool) {l : List α} {k : Nat} (h : k < l.length) : (l.take (k + 1)).any f = ((l.take k).any f || f l[k]) := by
  rw [List.take_add_one, List.getElem?_eq_getElem h]; simp only [Option.toList_some, List.any_append, List.any_cons, List.any_nil, Bool.or_false]

/-- A row of numbers, told by a function. -/
def rowF (g : Nat → Int) (n : Nat) : List D := (List.range n).map fun i => dI (g i)
def upd (g : Nat → Int) (i : Nat) (x : Int) : Nat → Int := fun j => if j = i then x else g j
@[simp] theorem rowF_len (g : Nat → Int) (n : Nat) : (rowF g n).length = n := by simp [rowF]
@[simp] theorem rowF_at (g : Nat → Int) (n i : Nat) (h : i < (rowF g n).length) : (rowF g n)[i] = dI (g i) := by simp [rowF]
theorem rowF_get {g : Nat → Int} {n i : Nat} (h : i < n) : (rowF g n)[i]? = some (dI (g i)) := by
  rw [List.getElem?_eq_getElem (by simpa using h), rowF_at]
@[simp] theorem rowF_set (g : Nat → Int) (n i : Nat) (x : Int) : (rowF g n).set i (.int .i64 x) = rowF (upd g i x) n := by
  apply List.ext_getElem?
  intro j
  rw [List.getElem?_set]
  by_cases hj : j < n
  · by_cases hij : i = j
    · subst hij; rw [if_pos rfl, if_pos (by simpa using hj), rowF_get hj, show upd g i x i = x from if_pos rfl]
    · rw [if_neg hij, rowF_get hj, rowF_get hj, show upd g i x j = g j from if_neg (Ne.symm hij)]
  · rw [List.getElem?_eq_none (by simp; omega), List.getElem?_eq_none (by simp; omega)]
    split
    · split
      · rename_i h1 h2; simp at h2; omega
      · rfl
    · rfl
theorem rowF_ext {g h : Nat → Int} {n : Nat} (e : ∀ i, i < n → g i = h i) : rowF g n = rowF h n := by
  unfold rowF
  exact List.map_congr_left fun i hi => by rw [e i (by simpa using hi)]
theorem rowF_of (l : List Int) : l.map dI = rowF (fun i => (l[i]?).getD 0) l.length := by
  apply List.ext_getElem?
  intro j
  by_cases hj : j < l.length
  · rw [rowF_get hj, List.getElem?_map, List.getElem?_eq_getElem hj]; rfl
  · rw [List.getElem?_eq_none (by simp; omega), List.getElem?_eq_none (by simp; omega)]
theorem shr1 {i j h : Nat} (hh : (i + j) / 2 = h) (hb : i + j ≤ 4000000000) : IntKind.i64.wrap ((IntKind.u64.wrap (IntKind.i64.wrap ((i : Int) + j))).fdiv (2 ^ min 1 IntKind.u64.bits)) = (h : Int) := by
  have h1 : IntKind.i64.wrap ((i : Int) + j) = i + j := wrapI (by omega) (by omega)
  have h2 : IntKind.u64.wrap ((i : Int) + j) = i + j := by simp [IntKind.wrap, IntKind.bits, IntKind.signed]; omega
  rw [h1, h2]
  have : ((2 : Int) ^ min 1 IntKind.u64.bits) = 2 := by decide
  rw [this, Int.fdiv_eq_ediv_of_nonneg _ (by omega), wrapI (by omega) (by omega)]
  omega
/-! ### Short forms of the steps: what is known stands in H -/
section
variable {ops all : Array Oper} {s s' s1 : St} {id : Nat} {c x y : Code} {Q : Exit → St → Prop} {rest rest' l l' : List Oper} {o : Oper} {z : Operand}
theorem zR (k : seqQ Tryz.prog c Q .normal s') (h : evOps tab ops ops.size ops.toList s = some ([], s') := by simp -implicitDefEqProofs [H] <;> rfl) : WpC Tryz.prog (.seq (.region id ops false) c) s Q := qR h k
theorem zr (k : Q .normal s') (h : evOps tab ops ops.size ops.toList s = some ([], s') := by simp -implicitDefEqProofs [H] <;> rfl) : WpC Tryz.prog (.region id ops false) s Q := qr h k
theorem zO (n : Nat) (k : WpO Tryz.prog all rest' s' Q) (h : evOps tab all n rest s = some (rest', s') := by simp -implicitDefEqProofs [H] <;> first | exact ⟨rfl, rfl⟩ | rfl) : WpO Tryz.prog all rest s Q := WpO.run tabOk n h k
theorem zS {r : Option FV} {b : Bool} (d : Nat) (ht : b = true → WpO Tryz.prog all rest { s with env := (d, .d (.bool true)) :: s.env } Q) (hf : b = false → WpO Tryz.prog all rest { s with env := (d, .d (.bool false)) :: s.env } Q)
    (hb0 : get s.env d = r := by simp -implicitDefEqProofs [H] <;> rfl) (hr : r = some (.d (.bool b)) := by rfl) : WpO Tryz.prog all rest s Q := WpO.splitB d hb0 hr ht hf
theorem zC {r : Option Bool} {b : Bool} (ht : b = true → WpC Tryz.prog x s Q) (hf : b = false → WpC Tryz.prog y s Q) (hc : evB s z = r := by simp -implicitDefEqProofs [H] <;> rfl) (hr : r = some b := by rfl) : WpC Tryz.prog (.cond z x y) s Q := WpC.condR hc hr ht hf
theorem zT (h : WpC Tryz.prog x s Q) (hc : evB s z = some true := by simp -implicitDefEqProofs [H] <;> rfl) : WpC Tryz.prog (.cond z x y) s Q := WpC.condT hc h
theorem zF (h : WpC Tryz.prog y s Q) (hc : evB s z = some false := by simp -implicitDefEqProofs [H] <;> rfl) : WpC Tryz.prog (.cond z x y) s Q := WpC.condF hc h
theorem zD (p : Prop) [Decidable p] (ht : p → WpC Tryz.prog x s Q) (hf : ¬ p → WpC Tryz.prog y s Q) (hc : evB s z = some (decide p) := by simp -implicitDefEqProofs [H]) : WpC Tryz.prog (.cond z x y) s Q := WpC.condD p hc ht hf
theorem zL (p : Prop) [Decidable p] (ht : p → WpC Tryz.prog x s Q) (hf : ¬ p → WpC Tryz.prog y s Q) (hc : evB s z = some (decide p) := by simp -implicitDefEqProofs [H] <;> omega) : WpC Tryz.prog (.cond z x y) s Q := WpC.condD p hc ht hf
variable {fx : Operand} {args : Array Operand} {ts : Array TypeId} {g : FuncId} {caps xs cargs : List FV} {v : FV}
theorem zG (hc : Callable Tryz.prog g) (hcall : Gives Tryz.prog g cargs v) (k : WpO Tryz.prog all rest s1 Q) (h : wantS all s o = some true := by simp) (ho : o.op = .call { callee := .value fx, args, argTypes := ts } := by rfl)
    (hf : evX s fx = some (.fn g caps) := by simp -implicitDefEqProofs [H] <;> rfl) (hx : evXs s args.toList = some xs := by simp -implicitDefEqProofs [H] <;> rfl) (hv : viewFs false s.S (xs ++ caps) = some cargs := by simp -implicitDefEqProofs [H] <;> rfl) (hp : s.pin ≤ s.S.length := by simp) (hid : fids v = [] := by rfl)
    (hset : setS s o.dst v = some s1 := by simp -implicitDefEqProofs [H] <;> rfl) : WpO Tryz.prog all (o :: rest) s Q := WpO.data h ho hf hx hv hc hp hcall hid hset k
theorem zB (hc : Callable Tryz.prog g) (hcall : Gives Tryz.prog g cargs v) (k : WpO Tryz.prog all rest s1 Q) (h : wantS all s o = some true := by simp) (ho : o.op = .call { callee := .value fx, args, argTypes := ts } := by rfl)
    (hf : evX s fx = some (.fn g caps) := by simp -implicitDefEqProofs [H] <;> rfl) (hx : evXs s args.toList = some xs := by simp -implicitDefEqProofs [H] <;> rfl) (hv : viewFs true s.S (xs ++ caps) = some cargs := by simp -implicitDefEqProofs [H] <;> rfl) (hfl : flatR v = true := by rfl)
    (hset : setS s o.dst v = some s1 := by simp -implicitDefEqProofs [H] <;> rfl) : WpO Tryz.prog all (o :: rest) s Q := WpO.lend h ho hf hx hv hc hcall hfl hset k
theorem zP {cS Sx S0 : List Ob} {r0 : FV} (perm : List Nat) (hc : Callable Tryz.prog g) (hcall : WpF Tryz.prog g cargs cS fun r S => r = r0 ∧ S = S0) (k : WpO Tryz.prog all rest s' Q) (hw : wantS all s o = some true := by simp) (ho : o.op = .call { callee := .value fx, args, argTypes := ts } := by rfl)
    (hf : evX s fx = some (.fn g caps) := by simp -implicitDefEqProofs [H] <;> rfl) (hx : evXs s args.toList = some xs := by simp -implicitDefEqProofs [H] <;> rfl) (hp : s.pin ≤ s.S.length := by simp) (hn : perm.Nodup := by simp) (hlt : ∀ i ∈ perm, i < s.S.length := by simp)
    (ha : ArgsOk s.S perm (xs ++ caps) cargs := by simp -implicitDefEqProofs [H]) (hS : pickS s.S perm = some Sx := by (simp; rfl)) (h2 : renOs (σ0 s.S.length perm) cS = Sx := by simp -implicitDefEqProofs [H])
    (hset : setS { s with S := setAll s.S perm (renOs (σ1 s.S.length perm) (S0.take perm.length)) ++ renOs (σ1 s.S.length perm) (S0.drop perm.length) } o.dst (ren (σ1 s.S.length perm) r0) = some s' := by simp -implicitDefEqProofs [H] <;> rfl) : WpO Tryz.prog all (o :: rest) s Q :=
  WpO.callP perm hw ho hf hx hc hp hn hlt ha hS h2 hcall fun r S1 hr => by
    obtain ⟨rfl, rfl⟩ := hr
    exact ⟨s', hset, k⟩
variable {nid nid' : Nat} {tr tr' : List TrC} {K : St → List TrC → Prop}
theorem yO (n : Nat) (k : DrO Tryz.prog tab ops l' s' nid' tr' K) (h : evDr tab ops [] n l s nid tr = some (l', s', nid', tr') := by simp -implicitDefEqProofs [H] <;> first | exact ⟨rfl, rfl, rfl, rfl⟩ | rfl) : DrO Tryz.prog tab ops l s nid tr K := DrO.run (fz := []) n h k
theorem yS {r : Option FV} {b : Bool} (d : Nat) (ht : b = true → DrO Tryz.prog tab ops l s nid tr K) (hf : b = false → DrO Tryz.prog tab ops l s nid tr K) (hb0 : get s.env d = r := by simp -implicitDefEqProofs [H] <;> rfl) (hr : r = some (.d (.bool b)) := by rfl) : DrO Tryz.prog tab ops l s nid tr K := DrO.splitB d hb0 hr ht hf
theorem yG (hc : Callable Tryz.prog g) (hcall : WpF Tryz.prog g cargs [] fun r S1 => r = v ∧ S1 = []) (k : DrO Tryz.prog tab ops l s1 nid (⟨tr.length, [], [], nid, vidss s.S (xs ++ caps), [], true⟩ :: tr) K) (h : wantS ops s o = some true := by simp [H]) (ho : o.op = .call { callee := .value fx, args, argTypes := ts } := by rfl)
    (hf : evX s fx = some (.fn g caps) := by simp -implicitDefEqProofs [H] <;> rfl) (hx : evXs s args.toList = some xs := by simp -implicitDefEqProofs [H] <;> rfl) (hv : viewFs false s.S (xs ++ caps) = some cargs := by simp -implicitDefEqProofs [H] <;> rfl) (hid : fids v = [] := by rfl)
    (hset : setS s o.dst v = some s1 := by simp -implicitDefEqProofs [H] <;> rfl) : DrO Tryz.prog tab ops (o :: l) s nid tr K := DrO.data h ho hf hx hv hc hcall hid hset k
end
theorem zE {T : Nat → Option TI} {s : St} {res : List ResultVar} {Q : FV → Prop} {xs ys : List FV} (hq : Q (pack ys)) (h1 : retAll T s res = some xs := by simp -implicitDefEqProofs [H] <;> rfl) (h2 : viewFs true s.S xs = some ys := by simp -implicitDefEqProofs [H] <;> rfl) : Pay.retD T res Q .ret s := retD_i h1 h2 hq
theorem zN {p q : Prop} (h : p) (e : p = q := by first | (simp only [dT, dF]; rfl) | (simp; rfl) | rfl) : q := e ▸ h
end Go.Proofs.YtjlamhilnkadcaaGreatDoor.Pay
