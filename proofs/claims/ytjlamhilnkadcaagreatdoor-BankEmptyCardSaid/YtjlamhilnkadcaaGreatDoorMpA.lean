/- Maps over abstract data: where a key stands; looking one up. No statement of the seed is proved here. -/
import Derived.Test.YtjlamhilnkadcaaGreatDoorPayC
import Derived.MapKept
namespace Go.Proofs.YtjlamhilnkadcaaGreatDoor.Pay
open Go Go.RowKit
set_option linter.unusedVariables false
set_option linter.unusedSimpArgs false

def keyEq : D → D → Option Bool
  | .int k a, .int k' b => if k = k' then some (decide (a = b)) else none
  | .str a, .str b => some (decide (a = b))
  | _, _ => none
/-- Where a key stands among keys; the inner none: nowhere. -/
def keyAt (k : D) : List D → Nat → Option (Option Nat)
  | [], _ => some none
  | x :: r, i => (keyEq k x).bind fun b => if b = true then some (some i) else keyAt k r (i + 1)
def keyOk : TK → D → Bool
  | .int k, .int k' _ => decide (k = k')
  | .str, .str _ => true
  | _, _ => false
/-- A map's keys, and what they stand for. -/
def mapV (S : List Ob) : FV → Option (List D × List D)
  | .d .nilm => some ([], [])
  | .d (.map ks es) => some (ks, es)
  | .mp id => match S[id]? with
    | some (.map ks es) => some (ks, es)
    | some (.fmap ks es) => some (ks, es)
    | _ => none
  | _ => none
/-- What a key stands for; or the zero value. -/
def lkD (z : D) (es : List D) : Option Nat → Option (D × Bool)
  | some j => (es[j]?).map fun x => (x, true)
  | none => some (z, false)
def evLk (T : Nat → Option TI) (s : St) (t : TypeId) (x k : FV) (ok : Bool) : Option FV :=
  (T t).bind fun i => (match i.kind, k with
  | .map kt et, .d kd => (T kt).bind fun ki => (T et).bind fun ei => if keyOk ki.kind kd = true ∧ ei.ag = false then
      (mapV s.S x).bind fun m => (keyAt kd m.1 0).bind fun r => (lkD (ei.zero.headD .nil) m.2 r).map fun p => if ok = true then .tup [.d p.1, .d (.bool p.2)] else .d p.1
    else none
  | _, _ => none)

section
variable {P : Program} {T : Nat → Option TI} {w : World} {I : Nat → Prop} {L : List Lay} {s : St} {a : Act}

theorem keyOk_desc {t : TypeId} {K : TK} {x : D} {v : Value} (h : TKOk P t K) (hk : keyOk K x = true) (hx : DRel w I x v) : ∃ d, P.underlying t = some d ∧ MapKept.IsKey d v := by
  cases K <;> cases x <;> simp [keyOk] at hk
  · subst hk
    simp only [DRel] at hx
    subst hx
    exact ⟨_, h, rfl⟩
  · simp only [DRel] at hx
    subst hx
    exact ⟨_, h, trivial⟩
theorem keyEq_ok {x y : D} {v u : Value} {d : TypeDesc} {b : Bool} (hd : MapKept.IsKey d v) (hx : DRel w I x v) (hy : DRel w I y u) (h : keyEq x y = some b) : MapKept.IsKey d u ∧ (b = true ↔ v = u) := by
  unfold keyEq at h
  split at h
  · split at h
    · rename_i k a k' b' hkk
      subst hkk; cases h
      simp only [DRel] at hx hy
      subst hx; subst hy
      cases d <;> simp [MapKept.IsKey] at hd ⊢
      exact hd
    · cases h
  · rename_i p q
    cases h
    simp only [DRel] at hx hy
    subst hx; subst hy
    cases d <;> simp [MapKept.IsKey] at hd ⊢
  · cases h
/-- Keys as the machine goes through them. -/
theorem findNow_ok {x : D} {v : Value} {d : TypeDesc} (hd : MapKept.IsKey d v) (hx : DRel w I x v) : ∀ {ents : List MapEntry} {ks : List D} {i : Nat} {r : Option Nat}, DRelL w I ks (ents.map (·.key)) → keyAt x ks i = some r →
    (r = none ∧ Instr.findNow d v ents i = some none) ∨ ∃ j e, r = some (i + j) ∧ ents[j]? = some e ∧ Instr.findNow d v ents i = some (some (i + j, e.val)) ∧ e.key = v
  | [], ks, i, r, h1, h => by
    have : ks = [] := by
      cases ks with
      | nil => rfl
      | cons c cs => simp [DRelL] at h1
    subst this
    simp only [keyAt, Option.some.injEq] at h
    exact .inl ⟨h.symm, rfl⟩
  | e :: ents, ks, i, r, h1, h => by
    cases ks with
    | nil => simp [DRelL] at h1
    | cons y ks =>
      simp only [List.map_cons, DRelL, List.cons.injEq] at h1
      obtain ⟨_, _, ⟨rfl, rfl⟩, a1, a2⟩ := h1
      simp only [keyAt, Option.bind_eq_some_iff] at h
      obtain ⟨b, hb, h⟩ := h
      obtain ⟨k1, k2⟩ := keyEq_ok hd hx a1 hb
      obtain ⟨r', hr', hiff⟩ := MapKept.sameNow_of_keys hd k1
      have hbr : r' = b := by
        cases b <;> cases r' <;> simp_all
      subst hbr
      cases hb' : r' with
      | true =>
        subst hb'
        simp only [if_true, Option.some.injEq] at h
        exact .inr ⟨0, e, by simpa using h.symm, rfl, by simp [Instr.findNow, hr'], (k2.1 rfl).symm⟩
      | false =>
        subst hb'
        simp only [Bool.false_eq_true, if_false] at h
        rcases findNow_ok hd hx a2 h with ⟨h3, h4⟩ | ⟨j, e', h3, h4, h5, h6⟩
        · exact .inl ⟨h3, by simp [Instr.findNow, hr', h4]⟩
        · refine .inr ⟨j + 1, e', by rw [h3]; congr 1; omega, by simpa using h4, ?_, h6⟩
          simp only [Instr.findNow, hr', h5]
          congr 3; omega

/-- What a map's value leads to. -/
theorem mapV_ok (hs : SR w I L s a) {x : FV} {v : Value} {ks es : List D} (hx : VRel w I L x v) (h : mapV s.S x = some (ks, es)) :
    ∃ ents : Array MapEntry, (v = .map none ∧ ents = #[] ∨ ∃ r clock, v = .map (some r) ∧ w.heap[r]? = some (.map ents clock) ∧ (I r ∨ r ∈ owns s.S L)) ∧ DRelL w I ks (ents.toList.map (·.key)) ∧ DRelL w I es (ents.toList.map (·.val)) := by
  have mem : ∀ {id : Nat} {o : Ob} {l : Lay}, s.S[id]? = some o → L[id]? = some l → ∀ b ∈ own o l, b ∈ owns s.S L := by
    have : ∀ {S : List Ob} {L : List Lay} {i : Nat} {o : Ob} {l : Lay}, S[i]? = some o → L[i]? = some l → ∀ b ∈ own o l, b ∈ owns S L := by
      intro S
      induction S with
      | nil => intro L i o l h; simp at h
      | cons x S ih =>
        intro L i o l h1 h2 b hb
        cases L with
        | nil => simp at h2
        | cons y L =>
          cases i with
          | zero => simp at h1 h2; subst h1; subst h2; simp [owns, hb]
          | succ i => simp only [owns, List.mem_append]; exact .inr (ih (by simpa using h1) (by simpa using h2) b hb)
    intro id o l h1 h2
    exact this h1 h2
  unfold mapV at h
  split at h
  · cases h
    simp only [VRel, DRel] at hx
    exact ⟨#[], .inl ⟨hx, rfl⟩, by simp [DRelL], by simp [DRelL]⟩
  · cases h
    simp only [VRel, DRel] at hx
    obtain ⟨r, ents, clock, hv, hi, hr, _, h1, h2⟩ := hx
    exact ⟨ents, .inr ⟨r, clock, hv, hr, .inl hi⟩, h1, h2⟩
  · rename_i id
    simp only [VRel] at hx
    obtain ⟨r, hl, rfl⟩ := hx
    split at h
    · rename_i ks' es' hS
      cases h
      obtain ⟨r', ents, clock, he, hr, _, h1, h2⟩ := hs.obs _ _ _ hS hl
      cases he
      exact ⟨ents, .inr ⟨r, clock, rfl, hr, .inr (mem hS hl r (by simp [own]))⟩, h1, h2⟩
    · rename_i ks' es' hS
      cases h
      obtain ⟨r', he, hd⟩ := hs.obs _ _ _ hS hl
      cases he
      simp only [DRel] at hd
      obtain ⟨r2, ents, clock, e2, hi, hr, _, h1, h2⟩ := hd
      cases e2
      exact ⟨ents, .inr ⟨r, clock, rfl, hr, .inl hi⟩, h1, h2⟩
    · cases h
  · cases h

theorem evLk_ok (hT : TabOk P T) (hs : SR w I L s a) {t : TypeId} {x k : FV} {ok : Bool} {vx vk : Value} {z : FV} (hx : VRel w I L x vx) (hk : VRel w I L k vk) (h : evLk T s t x k ok = some z) :
    ∃ v, (∀ w' : World, (∀ b, (I b ∨ b ∈ owns s.S L) → w'.heap[b]? = w.heap[b]?) → (Instr.lookup t vx vk ok).run P w' = .ok v w') ∧ VRel w I L z v := by
  unfold evLk at h
  simp only [Option.bind_eq_some_iff] at h
  obtain ⟨i, hi, h⟩ := h
  split at h
  · rename_i kt et kd hkd
    simp only [Option.bind_eq_some_iff] at h
    obtain ⟨ki, hki, ei, hei, h⟩ := h
    split at h
    · rename_i hcond
      simp only [Option.bind_eq_some_iff, Option.map_eq_some_iff] at h
      obtain ⟨⟨ks, es⟩, hm, r, hr, p, hp, rfl⟩ := h
      simp only [VRel] at hk
      have hti := (hT _ _ hi).kind
      rw [hkd] at hti
      simp only [TKOk] at hti
      obtain ⟨d, hd, hkey⟩ := keyOk_desc (hT _ _ hki).kind hcond.1 hk
      obtain ⟨ents, hv, h1, h2⟩ := mapV_ok hs hx hm
      have hes : ∀ w' : World, (∀ b, (I b ∨ b ∈ owns s.S L) → w'.heap[b]? = w.heap[b]?) → ∃ zv, (vx = .map none ∧ ents = #[] ∨ ∃ r clock, vx = .map (some r) ∧ w'.heap[r]? = some (.map ents clock)) ∧ zv = () := by
        intro w' hw'
        refine ⟨(), ?_, rfl⟩
        rcases hv with hv | ⟨r, clock, e1, e2, e3⟩
        · exact .inl hv
        · exact .inr ⟨r, clock, e1, (hw' r e3).trans e2⟩
      have hres : ∃ v b, VRel w I L (.d p.1) v ∧ p.2 = b ∧ ∀ w' : World, (∀ b, (I b ∨ b ∈ owns s.S L) → w'.heap[b]? = w.heap[b]?) → (Instr.lookup t vx vk ok).run P w' = .ok (if ok = true then .tuple #[v, .bool b] else v) w' := by
        rcases findNow_ok hkey hk h1 hr with ⟨rfl, hf⟩ | ⟨j, e, rfl, he, hf, _⟩
        · simp only [lkD, Option.some.injEq] at hp
          subst hp
          obtain ⟨z0, d0, hz, hzero, hd0⟩ := (hT _ _ hei).zero1 (w := w) (I := I) hcond.2
          refine ⟨z0, false, by simp only [VRel, hzero, List.headD_cons]; exact hd0, rfl, fun w' hw' => ?_⟩
          obtain ⟨z0', d0', hz', hzero', _⟩ := (hT _ _ hei).zero1 (w := w') (I := I) hcond.2
          have hzz : z0' = z0 := by
            have e1 : (zeroValue et).run P w' = .ok z0 w' := by
              obtain ⟨j, z, hj, h1', _, h3, h4, h5⟩ := (hT _ _ hei).info
              have a1 : (zeroValue et).run P w = .ok z w := by simp [Go.zeroValue, typeInfo, hj, h3]
              rw [a1] at hz; cases hz
              simp [Go.zeroValue, typeInfo, hj, h3]
            rw [e1] at hz'; cases hz'; rfl
          subst hzz
          obtain ⟨_, hc, _⟩ := hes w' hw'
          rcases hc with ⟨rfl, rfl⟩ | ⟨r, clock, rfl, hb⟩
          · cases ok <;> simp [Instr.lookup, run_underlying hti, MapKept.run_checkKey hd hkey, MapKept.run_findKey hd hf, hz', Result.andThen]
          · cases ok <;> simp [Instr.lookup, run_underlying hti, MapKept.run_getObj_map hb, MapKept.run_checkKey hd hkey, MapKept.run_findKey hd hf, hz', Result.andThen]
        · simp only [Nat.zero_add] at hp hf
          simp only [lkD, Option.map_eq_some_iff] at hp
          obtain ⟨y, hy, rfl⟩ := hp
          obtain ⟨u, hu, hd2⟩ := h2.get j y hy
          have hue : u = e.val := by rw [List.getElem?_map, he] at hu; exact (Option.some.inj hu).symm
          subst hue
          refine ⟨e.val, true, by simp only [VRel]; exact hd2, rfl, fun w' hw' => ?_⟩
          obtain ⟨_, hc, _⟩ := hes w' hw'
          rcases hc with ⟨rfl, rfl⟩ | ⟨r, clock, rfl, hb⟩
          · simp at he
          · cases ok <;> simp [Instr.lookup, run_underlying hti, MapKept.run_getObj_map hb, MapKept.run_checkKey hd hkey, MapKept.run_findKey hd hf, Result.andThen]
      obtain ⟨v, b, hv1, rfl, hrun⟩ := hres
      refine ⟨_, hrun, ?_⟩
      cases ok
      · simpa using hv1
      · simp only [if_true, VRel, VRelL, DRel]
        simp only [VRel] at hv1
        exact ⟨[v, .bool p.2], by simp, v, _, rfl, hv1, _, _, rfl, rfl, rfl⟩
    · cases h
  · cases h
end
end Go.Proofs.YtjlamhilnkadcaaGreatDoor.Pay
