/- The texts PayG, PayH, one behind the other. No statement of the seed is proved here. -/
import Derived.Test.YtlhmejigmokbhaaGreatDoorMgD
namespace Go.Proofs.YtlhmejigmokbhaaGreatDoor.Pay
open Go Go.RowKit
set_option linter.unusedVariables false
set_option linter.unusedSimpArgs false
theorem b8:∀(S:List Ob) (L:List Lay) (o:Ob) (l:Lay),S.length=L.length->aB (S++[o]) (L++[l])=aB S L++own o l
 |[],[],o,l,_=>by simp[aB]
 |x::S,y::L,o,l,h=>by
  simp only[List.cons_append,aB,List.append_assoc];rw[b8 S L o l (by simpa using h)]
 |[],_::_,_,_,h=>by simp at h
 |_::_,[],_,_,h=>by simp at h
theorem aR:∀ {S:List Ob} {L:List Lay} {i j:Nat} {o o':Ob} {l l':Lay},(aB S L).Nodup->S[i]?=some o->L[i]?=some l->S[j]?=some o'->L[j]?=some l'->i≠j->∀b∈own o l,b∉own o' l'
 |[],_,i,j,o,o',l,l',_,h,_,_,_,_=>by simp at h
 |x::S,[],i,j,o,o',l,l',_,_,h,_,_,_=>by simp at h
 |x::S,y::L,i,j,o,o',l,l',hn,h1,h2,h3,h4,hij=>by
  intro b hb hb';simp only[aB,List.nodup_append] at hn;obtain⟨_,hn2,hn3⟩:=hn;cases i with
  |zero=>
   cases j with
   |zero=>exact hij rfl
   |succ j=>
    simp at h1 h2;subst h1;subst h2;exact hn3 b hb b (aw (by simpa using h3) (by simpa using h4) b hb') rfl
  |succ i=>
   cases j with
   |zero=>
    simp at h3 h4;subst h3;subst h4;exact hn3 b hb' b (aw (by simpa using h1) (by simpa using h2) b hb) rfl
   |succ j=>exact aR hn2 (by simpa using h1) (by simpa using h2) (by simpa using h3) (by simpa using h4) (by omega) b hb hb'
theorem gN:∀ {S:List Ob} {L:List Lay} {i:Nat} {o o':Ob} {l:Lay},S[i]?=some o->L[i]?=some l->own o' l=own o l->aB (S.set i o') L=aB S L
 |[],_,i,o,o',l,h,_,_=>by simp at h
 |x::S,[],i,o,o',l,_,h,_=>by simp at h
 |x::S,y::L,i,o,o',l,h1,h2,h3=>by
  cases i with
  |zero=>simp at h1 h2;subst h1;subst h2;simp[aB,h3]
  |succ i=>simp only[List.set_cons_succ,aB];rw[gN (by simpa using h1) (by simpa using h2) h3]
theorem ip:∀ {S:List Ob} {L:List Lay} {i:Nat} {o o':Ob} {l:Lay},S[i]?=some o->L[i]?=some l->own o' l=[]->(aB S L).Nodup->
 (aB (S.set i o') L).Nodup/\∀b∈aB (S.set i o') L,b∈aB S L/\b∉own o l
 |[],_,i,o,o',l,h,_,_,_=>by simp at h
 |x::S,[],i,o,o',l,_,h,_,_=>by simp at h
 |x::S,y::L,i,o,o',l,h1,h2,h3,hn=>by
  simp only[aB,List.nodup_append] at hn;obtain⟨hn1,hn2,hn3⟩:=hn;cases i with
  |zero=>
   simp at h1 h2;subst h1;subst h2;simp only[List.set_cons_zero,aB,h3,List.nil_append];exact⟨hn2,λb hb=>⟨List.mem_append.2 (.inr hb),λhb'=>hn3 b hb' b hb rfl⟩⟩
  |succ i=>
   obtain⟨e1,e2⟩:=ip (o':=o') (by simpa using h1) (by simpa using h2) h3 hn2
   simp only[List.set_cons_succ,aB];refine⟨List.nodup_append.2 ⟨hn1,e1,λa ha b hb=>hn3 a ha b (e2 b hb).1⟩,λb hb=>?_⟩
   rcases List.mem_append.1 hb with hb|hb
   ·exact⟨List.mem_append.2 (.inl hb),λhb'=>hn3 b hb b (aw (by simpa using h1) (by simpa using h2) b hb') rfl⟩
   ·exact⟨List.mem_append.2 (.inr (e2 b hb).1),(e2 b hb).2⟩
section
variable {P:Program} {T:Nat->Option TI} {w w':World} {I:Nat->Prop} {L:List Lay} {s s':St} {a:Act}
theorem SR.world (hs:SR w I L s a) (hw:∀b,I b->w'.heap[b]?=w.heap[b]?) (ho:∀b∈aB s.S L,w'.heap[b]?=w.heap[b]?) (hsz:w.heap.size<=w'.heap.size):SR w' I L s a where
 env:=λt x hx=>ai.mono hw (λ_ h=>h) (λ_ _ h=>h) _ _ (hs.env t x hx)
 nt:=hs.nt
 len:=hs.len
 obs:=λi o l h1 h2=>b7.mono hw (λ_ h=>h) (λ_ _ h=>h) (λb hb=>ho b (aw h1 h2 b hb)) (hs.obs i o l h1 h2)
 nodup:=hs.nodup
 sep:=λb hb=>⟨(hs.sep b hb).1,Nat.lt_of_lt_of_le (hs.sep b hb).2 hsz⟩
 imm:=hs.imm.mono hw hsz
 defers:=hs.defers
theorem cZ (L:List Lay) (l:Lay):∀(i:Nat) (x:Lay),L[i]?=some x->(L++[l])[i]?=some x:=λi x h=>by
 rw[List.getElem?_append_left (List.getElem?_eq_some_iff.1 h).1];exact h
theorem SR.more (hs:SR w I L s a) (hw:∀b,b<w.heap.size->w'.heap[b]?=w.heap[b]?) (hsz:w.heap.size<=w'.heap.size) {o:Ob} {l:Lay} (ho:b7 w' I (L++[l]) o l)
 (hown:∀b∈own o l,w.heap.size<=b/\b<w'.heap.size) (hnd:(own o l).Nodup):SR w' I (L++[l]) {s with S:=s.S++[o]} a:=by
 have h0:=hs.world (w':=w') (λb hb=>hw b (hs.imm b hb)) (λb hb=>hw b (hs.sep b hb).2) hsz
 refine⟨λt x hx=>ai.mono (λ_ _=>rfl) (λ_ h=>h) (cZ L l) _ _ (h0.env t x hx),hs.nt,by simp[hs.len],?_,?_,?_,h0.imm,hs.defers⟩
 ·intro i o' l' h1 h2;by_cases hi:i<s.S.length
  ·rw[List.getElem?_append_left hi] at h1;rw[List.getElem?_append_left (by rw[hs.len];exact hi)] at h2
   exact b7.mono (λ_ _=>rfl) (λ_ h=>h) (cZ L l) (λ_ _=>rfl) (h0.obs i o' l' h1 h2)
  ·rw[List.getElem?_append_right (by omega)] at h1
   rw[List.getElem?_append_right (by rw[hs.len];omega),hs.len] at h2
   have hz:i-s.S.length=0:=by have:=(List.getElem?_eq_some_iff.1 h1).1;simp at this;omega
   rw[hz] at h1 h2;simp at h1 h2;subst h1;subst h2;exact ho
 ·show(aB (s.S++[o]) (L++[l])).Nodup
  rw[b8 _ _ _ _ hs.len.symm,List.nodup_append];refine⟨hs.nodup,hnd,λb hb c hc=>?_⟩
  have:=(hs.sep b hb).2;have:=(hown c hc).1;omega
 ·intro b hb;have hb':b∈aB (s.S++[o]) (L++[l]):=hb;rw[b8 _ _ _ _ hs.len.symm] at hb';rcases List.mem_append.1 hb' with hb'|hb'
  ·exact h0.sep b hb'
  ·exact⟨λhi=>by have:=hs.imm b hi;have:=(hown b hb').1;omega,(hown b hb').2⟩
theorem kv (w:World) (o:Obj) (b:Nat) (h:b<w.heap.size):(w.alloc o).heap[b]?=w.heap[b]?:=heap_alloc_old w o h
theorem bq.more (hs:SR w I L s a) (hw:∀b,b<w.heap.size->w'.heap[b]?=w.heap[b]?) (h1:w'.os=w.os) (h2:w'.tape=w.tape) (h3:w'.output=w.output) (hsz:w.heap.size<=w'.heap.size)
 {o:Ob} {l:Lay} (hown:∀b∈own o l,w.heap.size<=b/\b<w'.heap.size) (hp:s.pin<=s.S.length):bq w I L s w' I (L++[l]) {s with S:=s.S++[o]} where
 evo:=⟨h1,h2,h3,hsz,λb hb _=>hw b hb,λ_ h=>h,λ_ h=> .inl h,λb hb=>by
  have hb':b∈aB (s.S++[o]) (L++[l]):=hb;rw[b8 _ _ _ _ hs.len.symm] at hb';rcases List.mem_append.1 hb' with hb'|hb'
  ·exact .inl hb'
  ·exact .inr (hown b hb').1⟩
 pin:=rfl
 lay:=λi hi=>by rw[List.getElem?_append_left (by rw[hs.len];omega)]
theorem SR.upd (hs:SR w I L s a) {i:Nat} {o o':Ob} {l:Lay} (h1:s.S[i]?=some o) (h2:L[i]?=some l) (ho:own o' l=own o l)
 (hw:∀b,b<w.heap.size->b∉own o l->w'.heap[b]?=w.heap[b]?) (hsz:w'.heap.size=w.heap.size) (hr:b7 w' I L o' l):SR w' I L {s with S:=s.S.set i o'} a:=by
 have hI:∀b,I b->w'.heap[b]?=w.heap[b]?:=λb hb=>hw b (hs.imm b hb) λhb'=>(hs.sep b (aw h1 h2 b hb')).1 hb
 refine⟨λt x hx=>ai.mono hI (λ_ h=>h) (λ_ _ h=>h) _ _ (hs.env t x hx),hs.nt,by simp[hs.len],?_,?_,?_,hs.imm.mono hI (by omega),hs.defers⟩
 ·intro j oj lj e1 e2;by_cases hij:i=j
  ·subst hij;rw[List.getElem?_set_self (List.getElem?_eq_some_iff.1 h1).1] at e1;cases e1;rw[h2] at e2;cases e2;exact hr
  ·rw[List.getElem?_set_ne hij] at e1;exact b7.mono hI (λ_ h=>h) (λ_ _ h=>h) (λb hb=>hw b (hs.sep b (aw e1 e2 b hb)).2 (aR hs.nodup e1 e2 h1 h2 (Ne.symm hij) b hb)) (hs.obs j oj lj e1 e2)
 ·show(aB (s.S.set i o') L).Nodup
  rw[gN h1 h2 ho];exact hs.nodup
 ·intro b hb;have hb':b∈aB (s.S.set i o') L:=hb;rw[gN h1 h2 ho] at hb';rw[hsz];exact hs.sep b hb'
theorem bq.upd {i:Nat} {o o':Ob} {l:Lay} (h1:s.S[i]?=some o) (h2:L[i]?=some l) (ho:own o' l=own o l)
 (hw:∀b,b<w.heap.size->b∉own o l->w'.heap[b]?=w.heap[b]?) (hsz:w'.heap.size=w.heap.size) (e1:w'.os=w.os) (e2:w'.tape=w.tape) (e3:w'.output=w.output):
 bq w I L s w' I L {s with S:=s.S.set i o'} where
 evo:=⟨e1,e2,e3,by omega,λb hb hn=>hw b hb (λhb'=>hn (aw h1 h2 b hb')),λ_ h=>h,λ_ h=> .inl h,λb hb=>by
  have hb':b∈aB (s.S.set i o') L:=hb;rw[gN h1 h2 ho] at hb';exact .inl hb'⟩
 pin:=rfl
 lay:=λ_ _=>rfl
theorem bn {s1:St} {I':Nat->Prop} {L':List Lay} {dst:Option Nat} {x:FV} {v:Value} (h1:SR w' I' L' s1 a) (h2:bq w I L s w' I' L' s1) (hx:ai w' I' L' x v) (hset:aY s1 dst x=some s'):
 SR w' I' L' s' (a.put dst v)/\bq w I L s w' I' L' s':=by
 obtain⟨e1,e2,e3⟩:=h1.put hx hset;refine⟨e1,⟨?_,e3.trans h2.pin,h2.lay⟩⟩;rw[e2];exact h2.evo
def bu:FV->List FV
 | .d x=>x.cs.map .d
 | .agg cs=>cs
 |x=>[x]
theorem iS {x:FV} {v:Value} (hx:ai w I L x v) (hn:x≠ .dead/\∀vs,x≠ .tup vs):ap w I L (bu x) v.cells.toList/\bA v.cells.toList:=by
 cases x with
 |d x=>simp only[ai] at hx;exact⟨hx.cells.toV,hx.ones⟩
 |agg cs=>simp only[ai] at hx;obtain⟨vs,rfl,ho,hr⟩:=hx;simpa[bu,Value.cells] using⟨hr,ho⟩
 |dead=>exact absurd rfl hn.1
 |tup vs=>exact absurd rfl (hn.2 vs)
 |ref id off=>have h:=hx;simp only[ai] at hx;obtain⟨b,_,rfl⟩:=hx;simp only[bu,ap];exact⟨⟨_,[],rfl,h,rfl⟩,by simp[Value.cells,bA,Value.oneCell']⟩
 |sl id n=>have h:=hx;simp only[ai] at hx;obtain⟨l,hd,c,_,_,rfl⟩:=hx;simp only[bu,ap];exact⟨⟨_,[],rfl,h,rfl⟩,by simp[Value.cells,bA,Value.oneCell']⟩
 |er id k i off=>have h:=hx;simp only[ai] at hx;obtain⟨b,c,_,rfl⟩:=hx;simp only[bu,ap];exact⟨⟨_,[],rfl,h,rfl⟩,by simp[Value.cells,bA,Value.oneCell']⟩
 |dp cs=>have h:=hx;simp only[ai] at hx;obtain⟨b,o,vs,rfl,_⟩:=hx;simp only[bu,ap];exact⟨⟨_,[],rfl,h,rfl⟩,by simp[Value.cells,bA,Value.oneCell']⟩
 |fn f cs=>have h:=hx;simp only[ai] at hx;obtain⟨vs,rfl,_⟩:=hx;simp only[bu,ap];exact⟨⟨_,[],rfl,h,rfl⟩,by simp[Value.cells,bA,Value.oneCell']⟩
 |mp id=>have h:=hx;simp only[ai] at hx;obtain⟨r,_,rfl⟩:=hx;simp only[bu,ap];exact⟨⟨_,[],rfl,h,rfl⟩,by simp[Value.cells,bA,Value.oneCell']⟩
 |so id k off n=>have h:=hx;simp only[ai] at hx;obtain⟨_,_,_,_,rfl,_⟩:=hx;simp only[bu,ap];exact⟨⟨_,[],rfl,h,rfl⟩,by simp[Value.cells,bA,Value.oneCell']⟩
 |sc id n c=>have h:=hx;simp only[ai] at hx;obtain⟨_,_,_,_,rfl⟩:=hx;simp only[bu,ap];exact⟨⟨_,[],rfl,h,rfl⟩,by simp[Value.cells,bA,Value.oneCell']⟩
def kg:FV->Bool
 | .dead| .tup _=>false
 |_=>true
theorem kf {x:FV} (h:kg x=true):x≠ .dead/\∀vs,x≠ .tup vs:=by
 constructor
 ·rintro rfl;cases h
 ·rintro vs rfl;cases h
theorem nN (hs:SR w I L s a) (hp:s.pin<=s.S.length) {t:TypeId} {cs:List FV} {vs:List Value} (hr:ap w I L cs vs) (ho:bA vs):
 SR (w.alloc (.cells vs.toArray t)) I (L++[.c w.heap.size]) {s with S:=s.S++[.cells t cs]} a/\
 bq w I L s (w.alloc (.cells vs.toArray t)) I (L++[.c w.heap.size]) {s with S:=s.S++[.cells t cs]}/\
 ai (w.alloc (.cells vs.toArray t)) I (L++[.c w.heap.size]) (.ref s.S.length 0) (.pointer (some ⟨w.heap.size,0,none⟩)):=by
 have hsz:(w.alloc (.cells vs.toArray t)).heap.size=w.heap.size+1:=by simp
 have hw:=kv w (.cells vs.toArray t);have hown:∀b∈own (.cells t cs) (.c w.heap.size),w.heap.size<=b/\b<(w.alloc (.cells vs.toArray t)).heap.size:=by
  intro b hb;simp[own] at hb;subst hb;omega
 refine⟨hs.more hw (by omega) ⟨w.heap.size,vs,rfl,heap_alloc_new w _,ho,ap.mono (λb hb=>hw b (hs.imm b hb)) (λ_ h=>h) (cZ L _) _ _ hr⟩ hown (by simp[own]),
  bq.more hs hw rfl rfl rfl (by omega) hown hp,?_⟩
 simp only[ai];exact⟨w.heap.size,by rw[List.getElem?_append_right (by rw[hs.len];exact Nat.le_refl _),hs.len];simp,rfl⟩
theorem bK.alloc (hT:aP P T) {o:Oper} {t:TypeId} {i:TI} (ho:o.op= .alloc t) (hi:T t=some i) (hp:s.pin<=s.S.length)
 (hset:aY {s with S:=s.S++[.cells t (i.zero.map .d)]} o.dst (.ref s.S.length 0)=some s'):bK P o s s':=λw I L a hs=>by
 obtain⟨z,hz,hl,hsz⟩:=(hT _ _ hi).zeroValue (w:=w);obtain⟨h1,h2⟩:=db (w:=w) (I:=I) hl;obtain⟨e1,e2,e3⟩:=nN hs hp (t:=t) h1.toV h2;obtain⟨e4,e5⟩:=bn e1 e2 e3 hset;refine⟨_,_,I,_,_,?_,.inl rfl,e4,e5⟩;unfold execOp;simp only[ho,Instr.alloc,Sem.run_bind,hz,Result.andThen_ok,newVar,newRow,run_newObj,Sem.run_pure];rfl
theorem bK.box {o:Oper} {t:TypeId} {x:Operand} {v:FV} (ho:o.op= .box t x) (hx:evX s x=some v) (hpl:kg v=true) (hp:s.pin<=s.S.length)
 (hset:aY {s with S:=s.S++[.cells t (bu v)]} o.dst (.ref s.S.length 0)=some s'):bK P o s s':=λw I L a hs=>by
 obtain⟨h1,h2⟩:=iS (hs.evX hx) (kf hpl);obtain⟨e1,e2,e3⟩:=nN hs hp (t:=t) h1 h2;obtain⟨e4,e5⟩:=bn e1 e2 e3 hset;refine⟨_,_,I,_,_,?_,.inl rfl,e4,e5⟩;unfold execOp;simp only[ho,Instr.box,Sem.run_bind,Result.andThen_ok,newVar,newRow,run_newObj,Sem.run_pure];rfl
theorem ar.leaf {x:D} {v:Value} (h:ar w I x v) (hx:∀cs,x≠ .agg cs):v.cells.toList=[v]:=by
 cases x<;>simp only[ar] at h;case agg=>exact absurd rfl (hx _)
 case list=>obtain⟨_,_,rfl,_⟩:=h;rfl
 case any=>obtain⟨_,_,rfl⟩:=h;rfl
 case map=>obtain⟨_,_,_,rfl,_⟩:=h;rfl
 all_goals(subst h;rfl)
def spl {α:Type} (cs:List α) (off:Nat) (vs:List α):List α:=match vs with
 |[v]=>cs.set off v
 |_=>cs.take off++vs++cs.drop (off+vs.length)
theorem cK {α:Type} {cs:List α} {off:Nat} {vs:List α} (h:off+vs.length<=cs.length):spl cs off vs=cs.take off++vs++cs.drop (off+vs.length):=by
 unfold spl;split
 ·rename_i v;simp only[List.length_cons,List.length_nil] at h;rw[List.set_eq_take_append_cons_drop,if_pos (by omega)]
  simp
 ·rfl
theorem jb {t:TypeId} {i:TI} (hi:aq P t i) {b off:Nat} {tt:TypeId} {cur:List Value} {v:Value} (hb:w.heap[b]?=some (.cells cur.toArray tt (0,0))) (hsz:v.cells.size=i.size)
 (hle:off+v.cells.toList.length<=cur.length) (ho:bA v.cells.toList):
 (storeVar t ⟨b,off,none⟩ v).run P w= .ok () (w.setRow b (spl cur off v.cells.toList).toArray):=by
 have hr:=run_storeCells_at P b off tt v.cells.toList 0 cur.toArray w hb (by simpa using hle) ho
 simp only[storeVar,Sem.run_bind,hi.sizeOf,Result.andThen_ok,hsz,ne_eq,not_true,if_false];rw[hr,cK hle];simp
theorem kH {b:Nat} {cs:Array Value}:∀k,k<w.heap.size->k∉ [b]->(w.setRow b cs).heap[k]?=w.heap[k]?:=λk _ hk=>setRow_other w b k cs (by simpa using hk)
def kP (T:Nat->Option TI) (s:St) (t:TypeId) (p x:FV):Option (List Ob):=
 (T t).bind λi=>if kg x=true/\(bu x).length=i.size then(match p with
 | .ref id off=>(match s.S[id]? with
  |some (.cells tt cs)=>if off+i.size<=cs.length then some (s.S.set id (.cells tt (spl cs off (bu x)))) else none
  |_=>none)
 | .er id k j off=>(match s.S[id]? with
  |some (.arr e k' xs)=>if k'=k then(xs[j]?).bind λy=>(allD (bu x)).bind λds=>(match y with
   | .agg cs=>if off+ds.length<=cs.length then some (s.S.set id (.arr e k (xs.set j (.agg (spl cs off ds))))) else none
   |_=>if off=0 then(match x with
    | .d z=>(match z with
     | .agg _=>none
     |z=>some (s.S.set id (.arr e k (xs.set j z))))
    |_=>none) else none) else none
  |_=>none)
 |_=>none) else none
theorem ap.spl {cs ds:List FV} {vs us:List Value} {off:Nat} (h:ap w I L cs vs) (h':ap w I L ds us) (hle:off+ds.length<=cs.length):ap w I L (spl cs off ds) (spl vs off us):=by
 rw[cK hle,cK (by rw[h.length,h'.length];exact hle),h'.length]
 exact((h.take off).append h').append (h.drop _)
theorem au.append {cs ds:List D} {vs us:List Value} (h:au w I cs vs) (h':au w I ds us):au w I (cs++ds) (vs++us):=by
 induction cs generalizing vs with
 |nil=>simp only[au] at h;subst h;simpa using h'
 |cons c cs ih=>
  simp only[au] at h;obtain⟨v,r,rfl,h1,h2⟩:=h;simp only[List.cons_append,au];exact⟨v,r++us,rfl,h1,ih h2⟩
theorem au.spl {cs ds:List D} {vs us:List Value} {off:Nat} (h:au w I cs vs) (h':au w I ds us) (hle:off+ds.length<=cs.length):au w I (spl cs off ds) (spl vs off us):=by
 rw[cK hle,cK (by rw[h.length,h'.length];exact hle),h'.length]
 exact((h.take off).append h').append (h.drop _)
theorem bA.spl {vs us:List Value} {off:Nat} (h:bA vs) (h':bA us) (hle:off+us.length<=vs.length):bA (spl vs off us):=by
 rw[cK hle];intro v hv;simp only[List.mem_append] at hv;rcases hv with(hv|hv)|hv
 ·exact h v (List.mem_of_mem_take hv)
 ·exact h' v hv
 ·exact h v (List.mem_of_mem_drop hv)
theorem qa {e:TypeId} {k n cap b:Nat} {vs us:List Value} {p:Nat} (h:w.ownsRow 0 e k (.slice (some ⟨b,0,none⟩) n cap) n vs) (hle:p+us.length<=vs.length):
 ∃cur:List Value,w.heap[b]?=some (.cells cur.toArray e (0,0))/\p+us.length<=cur.length/\(w.setRow b (spl cur p us).toArray).ownsRow 0 e k (.slice (some ⟨b,0,none⟩) n cap) n (spl vs p us):=by
 obtain⟨hl,h⟩:=h;rcases h with⟨h,_⟩|⟨g,cp,cur,he,_,hg,hn,hm,hc,ht⟩
 ·cases h
 ·cases he;have hcl:p+us.length<=cur.toList.length:=by
   have:=congrArg List.length ht;rw[List.length_take] at this;omega
  refine⟨cur.toList,by simpa using hg,hcl,?_,.inr ⟨b,cap,_,rfl,Nat.zero_le _,setRow_heap w b cur _ e (0,0) hg,hn,hm,?_,?_⟩⟩
  ·rw[cK hle];simp only[List.length_append,List.length_take,List.length_drop];omega
  ·rw[cK hcl];simp only[List.size_toArray,List.length_append,List.length_take,List.length_drop,Array.length_toList];simp only[Array.length_toList] at hcl;omega
  ·rw[cK hle,cK hcl];rw[<-ht] at hle ⊢;simp only[List.length_take,Array.length_toList] at hle;apply List.ext_getElem?;intro j;simp only[List.getElem?_take,List.getElem?_append,List.getElem?_drop,List.length_append,List.length_take,Array.length_toList];have hc':p<=cur.size:=by omega
   by_cases h1:j<n*k
   ·simp only[h1,if_true];by_cases h2:j<p
    ·have:j<min p cur.size:=by omega
     have h3:j<min p (min (n*k) cur.size):=by omega
     simp[this,h3,h2,show j<min p cur.size+us.length by omega,show j<min p (min (n*k) cur.size)+us.length by omega]
    ·have e1:min p cur.size=p:=by omega
     have e2:min p (min (n*k) cur.size)=p:=by omega
     rw[e1,e2];by_cases h3:j<p+us.length
     ·simp[h2,h3]
     ·simp[h3,show p+us.length+(j-(p+us.length))<n*k by omega]
   ·have h2:¬j<p:=by omega
    have e2:min p (min (n*k) cur.size)=p:=by omega
    simp only[h1,if_false,e2];simp[show¬j<p+us.length by omega,show¬p+us.length+(j-(p+us.length))<n*k by omega]
theorem bK.store (hT:aP P T) {o:Oper} {t:TypeId} {p x:Operand} {vp vx:FV} {S':List Ob} (ho:o.op= .store t p x) (hp:evX s p=some vp) (hx:evX s x=some vx)
 (hst:kP T s t vp vx=some S') (hset:aY {s with S:=S'} o.dst (.tup [])=some s'):bK P o s s':=λw I L a hs=>by
 have hvp:=hs.evX hp;have hvx:=hs.evX hx;have hund:∀(W:World) (L':List Lay),ai W I L' (.tup []) undef:=λW L'=>by simp only[ai,ap];exact⟨[],rfl,rfl⟩
 unfold kP at hst;simp only[Option.bind_eq_some_iff] at hst;obtain⟨i,hi,hst⟩:=hst;have hI:=hT _ _ hi;split at hst
 ·rename_i hc;obtain⟨hpl,hlen⟩:=hc;obtain⟨hcs,hones⟩:=iS hvx (kf hpl);have hsz:(a.eval x).cells.size=i.size:=by rw[<-Array.length_toList,hcs.length];exact hlen
  split at hst
  ·rename_i id off;simp only[ai] at hvp;obtain⟨b,hl,hvp⟩:=hvp;split at hst
   ·rename_i tt cs hS;split at hst
    ·rename_i hle;cases hst;obtain⟨b',vs,he,hb,h1,hr⟩:=hs.obs _ _ _ hS hl;cases he;have hle':off+(a.eval x).cells.toList.length<=vs.length:=by rw[Array.length_toList,hsz,hr.length];exact hle
     have hrun:=jb (P:=P) hI hb hsz hle' hones;have hk:∀k,k<w.heap.size->k∉own (.cells tt cs) (.c b)->(w.setRow b (spl vs off (a.eval x).cells.toList).toArray).heap[k]?=w.heap[k]?:=kH
     have hII:∀k,I k->(w.setRow b (spl vs off (a.eval x).cells.toList).toArray).heap[k]?=w.heap[k]?:=λk hkI=>hk k (hs.imm k hkI) λhb'=>(hs.sep k (aw hS hl k hb')).1 hkI
     have e1:=hs.upd (o':= .cells tt (spl cs off (bu vx))) hS hl rfl hk (by simp) ⟨b,_,rfl,setRow_heap w b _ _ tt (0,0) hb,h1.spl hones hle',
      ap.mono hII (λ_ h=>h) (λ_ _ h=>h) _ _ (hr.spl hcs (by rw[hlen];exact hle))⟩
     have e2:=bq.upd (I:=I) (s:=s) (o':= .cells tt (spl cs off (bu vx))) hS hl rfl hk (by simp) rfl rfl rfl
     obtain⟨e4,e5⟩:=bn e1 e2 (hund _ _) hset;refine⟨_,_,I,L,_,?_,.inr ⟨rfl,rfl⟩,e4,e5⟩;unfold execOp;simp only[ho,Instr.storeAt,hvp,Instr.sureAddr,Sem.run_bind,Sem.run_pure,Result.andThen_ok,hrun]
    ·cases hst
   ·cases hst
  ·rename_i id k j off;simp only[ai] at hvp;obtain⟨b,cap,hl,hvp⟩:=hvp;split at hst
   ·rename_i e k' xs hS;split at hst
    ·rename_i hk;subst hk;simp only[Option.bind_eq_some_iff] at hst;obtain⟨y,hy,ds,hds,hst⟩:=hst;rcases hs.obs _ _ _ hS hl with⟨base,cp,vs,he,hown,hr⟩|⟨hd,he,_⟩
     rotate_left
     ·cases he
     cases he;have hdr:=hcs.allD hds;obtain⟨v,hv,hvk,hvd⟩:=hr.get j y hy;have hj:j<xs.length:=(List.getElem?_eq_some_iff.1 hy).1;have hlv:vs.length=xs.length*k':=hr.length;have hjk:j*k'+k'<=xs.length*k':=by
      have:=Nat.mul_le_mul_right k' (show j+1<=xs.length from hj)
      rwa [Nat.succ_mul] at this
     have hdl:ds.length=(a.eval x).cells.toList.length:=hdr.length.symm;have key:∀z:D,off+(a.eval x).cells.toList.length<=k'->(∃u,ar w I z u/\u.cells.size=k'/\u.cells.toList=spl v.cells.toList off (a.eval x).cells.toList)->S'=s.S.set id (.arr e k' (xs.set j z))->
      ∃r w' I' L' v,(execOp a.eval o).run P w= .ok r w'/\(r= .value v\/r= .skip/\v=undef)/\SR w' I' L' s' (a.put o.dst v)/\bq w I L s w' I' L' s':=by
      intro z hle hz hS';obtain⟨u,hu,huk,hus⟩:=hz;have hle2:j*k'+off+(a.eval x).cells.toList.length<=vs.length:=by rw[hlv];omega
      obtain⟨cur,hcur,hcl,hown'⟩:=qa hown hle2;have hrun:=jb (P:=P) hI hcur hsz hcl hones;have hk2:∀q,q<w.heap.size->q∉own (.arr e k' xs) (.a (some b) cap)->(w.setRow b (spl cur (j*k'+off) (a.eval x).cells.toList).toArray).heap[q]?=w.heap[q]?:=kH
      have hII:∀q,I q->(w.setRow b (spl cur (j*k'+off) (a.eval x).cells.toList).toArray).heap[q]?=w.heap[q]?:=λq hqI=>hk2 q (hs.imm q hqI) λhb'=>(hs.sep q (aw hS hl q hb')).1 hqI
      have hset2:=hr.set j hj hu huk;have hspl:spl vs (j*k'+off) (a.eval x).cells.toList=vs.take (j*k')++u.cells.toList++vs.drop (j*k'+k'):=by
       have h1v:v.cells.toList.length=k':=by rw[Array.length_toList,hvk]
       rw[hus,cK hle2,cK (show off+(a.eval x).cells.toList.length<=v.cells.toList.length from by rw[h1v];exact hle),<-hvd]
       have hz1:(vs.drop (j*k')).take off=(vs.drop (j*k')).take off:=rfl;rw[List.take_take,Nat.min_eq_left (by omega),List.drop_take,List.drop_drop]
       rw[show vs.take (j*k'+off)=vs.take (j*k')++(vs.drop (j*k')).take off from by rw[List.take_add]]
       have hz2:(vs.drop (j*k'+(off+(a.eval x).cells.toList.length))).take (k'-(off+(a.eval x).cells.toList.length))++vs.drop (j*k'+k')=vs.drop (j*k'+off+(a.eval x).cells.toList.length):=by
        rw[show vs.drop (j*k'+k')=(vs.drop (j*k'+(off+(a.eval x).cells.toList.length))).drop (k'-(off+(a.eval x).cells.toList.length)) from by rw[List.drop_drop];congr 1;omega]
        rw[List.take_append_drop];congr 1
        omega
       simp only[List.append_assoc];rw[hz2]
      rw[<-hspl] at hset2;have hxl:(xs.set j z).length=xs.length:=by simp
      have e1:=hs.upd (o':= .arr e k' (xs.set j z)) hS hl rfl hk2 (by simp) (.inl ⟨some b,cap,_,rfl,by rw[hxl];exact hown',ax.mono hII (λ_ h=>h) _ _ _ hset2⟩)
      have e2:=bq.upd (I:=I) (s:=s) (o':= .arr e k' (xs.set j z)) hS hl rfl hk2 (by simp) rfl rfl rfl
      subst hS';obtain⟨e4,e5⟩:=bn e1 e2 (hund _ _) hset;refine⟨_,_,I,L,_,?_,.inr ⟨rfl,rfl⟩,e4,e5⟩;unfold execOp;simp only[ho,Instr.storeAt,hvp,Instr.sureAddr,Sem.run_bind,Sem.run_pure,Result.andThen_ok,hrun]
     split at hst
     ·rename_i cs;split at hst
      ·rename_i hle;cases hst;simp only[ar] at hv;obtain⟨us,rfl,hus,hru⟩:=hv;have hcl:cs.length=k':=by rw[<-hru.length];simpa[Value.cells] using hvk
       have hle3:off+(a.eval x).cells.toList.length<=us.length:=by rw[<-hdl,hru.length];exact hle
       refine key _ (by rw[<-hdl,<-hcl];exact hle) ⟨.agg (spl us off (a.eval x).cells.toList).toArray,?_,?_,rfl⟩ rfl
       ·simp only[ar];exact⟨_,rfl,hus.spl hones hle3,hru.spl hdr hle⟩
       ·have hsl:(spl us off (a.eval x).cells.toList).length=us.length:=by
         rw[cK hle3];simp only[List.length_append,List.length_take,List.length_drop];omega
        show(spl us off (a.eval x).cells.toList).length=k'
        rw[hsl,hru.length,hcl]
      ·cases hst
     ·rename_i hya;split at hst
      ·rename_i h0;subst h0;split at hst
       ·rename_i z0;split at hst
        ·cases hst
        ·rename_i z hza;cases hst;simp only[ai] at hvx;have hy1:v.cells.toList=[v]:=hv.leaf (λcs e=>hya cs e)
         have hx1:(a.eval x).cells.toList=[a.eval x]:=hvx.leaf (λcs e=>hza cs e)
         have hk1:k'=1:=by rw[<-hvk,<-Array.length_toList,hy1];rfl
         refine key _ (by rw[hx1,hk1];simp) ⟨a.eval x,hvx,by rw[<-Array.length_toList,hx1,hk1];rfl,by rw[hx1,hy1];rfl⟩ rfl
       ·cases hst
      ·cases hst
    ·cases hst
   ·cases hst
  ·cases hst
 ·cases hst
end
section
variable {P:Program} {T:Nat->Option TI} {w w':World} {I:Nat->Prop} {L:List Lay} {s s':St} {a:Act}
theorem nO (hs:SR w I L s a) (hp:s.pin<=s.S.length) {e:TypeId} {k n:Nat} {vs:List Value} {xs:List D} (hr:ax w I k xs vs) (hn:xs.length=n) (hm:n<=maxLen) (hsz:vs.length=n*k):
 SR (w.alloc (.cells vs.toArray e)) I (L++[.a (some w.heap.size) n]) {s with S:=s.S++[.arr e k xs]} a/\
 bq w I L s (w.alloc (.cells vs.toArray e)) I (L++[.a (some w.heap.size) n]) {s with S:=s.S++[.arr e k xs]}/\
 ai (w.alloc (.cells vs.toArray e)) I (L++[.a (some w.heap.size) n]) (.sl s.S.length n) (.slice (some ⟨w.heap.size,0,none⟩) n n):=by
 have hsz1:(w.alloc (.cells vs.toArray e)).heap.size=w.heap.size+1:=by simp
 have hw:=kv w (.cells vs.toArray e);have hown:∀b∈own (.arr e k xs) (.a (some w.heap.size) n),w.heap.size<=b/\b<(w.alloc (.cells vs.toArray e)).heap.size:=by
  intro b hb;simp[own] at hb;subst hb;omega
 have ho:(w.alloc (.cells vs.toArray e)).ownsRow 0 e k (.slice (some ⟨w.heap.size,0,none⟩) n n) n vs:=by
  have:=World.ownsRow_lit (base:=0) (e:=e) (size:=k) w vs.toArray n (Nat.zero_le _) hm (by simpa using hsz)
  simpa using this
 subst hn;refine⟨hs.more hw (by omega) (.inl ⟨some w.heap.size,xs.length,vs,rfl,ho,ax.mono (λb hb=>hw b (hs.imm b hb)) (λ_ h=>h) _ _ _ hr⟩) hown (by simp[own]),
  bq.more hs hw rfl rfl rfl (by omega) hown hp,?_⟩
 simp only[ai];exact⟨.a (some w.heap.size) xs.length,_,_,by rw[List.getElem?_append_right (by rw[hs.len];exact Nat.le_refl _),hs.len];simp,rfl,rfl⟩
def TI.zeroD (i:TI):D:=if i.ag=true then .agg i.zero else i.zero.headD .nil
theorem dA (z:Array Value) (k:Nat) (hz:z.size=k):∀n,(madeCells z (n*k)).toList=(List.replicate n z.toList).flatten
 |0=>by simp[madeCells]
 |n+1=>by
  rw[List.replicate_succ',List.flatten_append,<-dA z k hz n];apply List.ext_getElem?;intro j;simp only[madeCells,Array.toList_map,Array.toList_range,List.getElem?_map,List.flatten_cons,List.flatten_nil,List.append_nil,List.getElem?_append,List.length_map,List.length_range];by_cases h1:j<n*k
  ·simp only[h1,if_true];rw[List.getElem?_range (by rw[Nat.succ_mul];omega),List.getElem?_range h1]
  ·simp only[h1,if_false];by_cases h2:j<(n+1)*k
   ·rw[List.getElem?_range h2];have hk:j-n*k<k:=by rw[Nat.succ_mul] at h2;omega
    have hm:j%k=j-n*k:=by
     have:j=(j-n*k)+n*k:=by omega
     rw[this,Nat.add_mul_mod_self_right,Nat.mod_eq_of_lt (by omega)]
     omega
    have hlt:j-n*k<z.size:=by omega
    rw[Option.map_some,hz,hm,Array.getElem?_toList,Array.getElem?_eq_getElem hlt,getElem!_pos z _ hlt]
   ·rw[List.getElem?_eq_none (by simp;omega),List.getElem?_eq_none (by simp[hz];rw[Nat.succ_mul] at h2;omega)]
    rfl
theorem lF {t:TypeId} {i:TI} (hi:aq P t i) (h1:i.ag=true\/i.size=1):∃z v,(zeroValue t).run P w= .ok z w/\ar w I i.zeroD v/\v.cells=z.cells/\v.cells.size=i.size:=by
 obtain⟨z,hz,hl,hsz⟩:=hi.zeroValue (w:=w);obtain⟨e1,e2⟩:=db (w:=w) (I:=I) hl;unfold TI.zeroD;cases hag:i.ag with
 |true=>
  refine⟨z,.agg z.cells,hz,?_,rfl,hsz⟩;simp only[if_true,ar];exact⟨z.cells.toList,by simp,e2,e1⟩
 |false=>
  have h1':i.size=1:=by simpa[hag] using h1
  have hlen:=e1.length;rw[Array.length_toList,hsz,h1'] at hlen;cases hzz:i.zero with
  |nil=>rw[hzz] at hlen;simp at hlen
  |cons x r=>
   have hr0:r=[]:=by rw[hzz] at hlen;simp at hlen;exact hlen
   subst hr0;rw[hzz] at e1;simp only[au] at e1;obtain⟨v,q,hq,hv,rfl⟩:=e1;refine⟨z,v,hz,by simpa using hv,?_,?_⟩
   ·have h1v:v.oneCell'=true:=e2 v (by rw[hq];simp)
    have:v.cells= #[v]:=by cases v<;>first|rfl|(simp[Value.oneCell'] at h1v)
    rw[this];apply Array.ext';rw[hq]
   ·have h1v:v.oneCell'=true:=e2 v (by rw[hq];simp)
    have:v.cells= #[v]:=by cases v<;>first|rfl|(simp[Value.oneCell'] at h1v)
    rw[this,h1'];rfl
theorem ax.replicate {k:Nat} {x:D} {v:Value} (hx:ar w I x v) (hk:v.cells.size=k):∀n,ax w I k (List.replicate n x) (List.replicate n v.cells.toList).flatten
 |0=>by simp[ax]
 |n+1=>by
  simp only[List.replicate_succ,List.flatten_cons,ax];exact⟨v,_,rfl,hk,hx,ax.replicate hx hk n⟩
def oQ (i:TI):Bool:=i.ag||i.size==1
theorem bK.make (hT:aP P T) {o:Oper} {t e:TypeId} {i ei:TI} {lx cx:Operand} {k1 k2:IntKind} {n:Int} (ho:o.op= .makeSlice t lx cx) (hi:T t=some i) (hk:i.kind= .slice e) (hei:T e=some ei)
 (hl:evX s lx=some (.d (.int k1 n))) (hc:evX s cx=some (.d (.int k2 n))) (h0:0<=n) (hb:ei.bytes*n.toNat<=281474976710656) (hm:n.toNat<=maxLen) (hok:oQ ei=true) (hp:s.pin<=s.S.length)
 (hset:aY {s with S:=s.S++[.arr e ei.size (List.replicate n.toNat ei.zeroD)]} o.dst (.sl s.S.length n.toNat)=some s'):bK P o s s':=λw I L a hs=>by
 have hI:=(hT _ _ hi).kind;rw[hk] at hI;simp only[bx] at hI;obtain⟨j,z,hj,e1,e2,e3,e4,e5⟩:=(hT _ _ hei).info;obtain⟨z',v,hz',hv,hvc,hvs⟩:=lF (w:=w) (I:=I) (hT _ _ hei) (by simpa[oQ] using hok)
 have hzz:z'=z:=by
  have:(zeroValue e).run P w= .ok z w:=by simp[Go.zeroValue,typeInfo,hj,e3]
  rw[this] at hz';cases hz';rfl
 subst hzz;obtain⟨m,rfl⟩:=Int.eq_ofNat_of_zero_le h0;simp only[Int.toNat_natCast] at hb hm hset;have hb1:(j.bytes:Int)*(m:Int)<=281474976710656:=by
  have h:((ei.bytes*m:Nat):Int)<=281474976710656:=by omega
  rw[e2]
  rwa [Int.natCast_mul] at h
 have hm1:(m:Int)<=9223372036854775807:=by have h:=hm;simp[maxLen] at h;omega
 have hr:=run_make (P:=P) w t e j z' hI hj e3 k1 k2 m m (by omega) (Int.le_refl _) hb1 hm1
 simp only[Int.toNat_natCast] at hr;have hcells:madeCells z'.cells (m*j.size)=(List.replicate m z'.cells.toList).flatten.toArray:=by
  apply Array.ext';rw[dA z'.cells j.size (by rw[e5,e1]) m]
 rw[hcells] at hr;have hrep:=ax.replicate hv hvs m;rw[hvc] at hrep;obtain⟨h1,h2,h3⟩:=nO hs hp (e:=e) (n:=m) hrep (by simp) hm (by rw[hrep.length];simp)
 obtain⟨h4,h5⟩:=bn h1 h2 h3 hset;have q1:=hs.evX hl;have q2:=hs.evX hc;simp only[ai,ar] at q1 q2;refine⟨_,_,I,_,_,?_,.inl rfl,h4,h5⟩;unfold execOp;simp only[ho,q1,q2,Sem.run_bind,hr,Result.andThen_ok,Sem.run_pure]
def fu (s:St):Nat->List (Nat×Operand)->Option (List D)
 |_,[]=>some []
 |n,(i,x)::r=>if i=n then(match evX s x with
  |some (.d x)=>(fu s (n+1) r).map (x:: ·)
  |_=>none) else none
theorem tm {k:Nat}:∀ {ps:List (Nat×Operand)} {xs:List D} {n:Nat} {pre rest:List Value},fu s n ps=some xs->SR w I L s a->(∀p∈ps,(a.eval p.2).cells.size=k)->pre.length=n*k->rest.length=ps.length*k->
 ∃vs,Instr.fill (λi=>some (i*k,k)) (pre++rest).toArray (ps.map λ(i,x)=>(i,a.eval x))=some (pre++vs).toArray/\ax w I k xs vs/\vs.length=ps.length*k
 |[],xs,n,pre,rest,h,_,_,_,hr=>by
  simp[fu] at h;subst h;have:rest=[]:=List.eq_nil_of_length_eq_zero (by simpa using hr)
  subst this;exact⟨[],by simp[Instr.fill],by simp[ax],by simp⟩
 |(i,x)::ps,xs,n,pre,rest,h,hs,hk,hp,hr=>by
  unfold fu at h;split at h
  ·rename_i hin;subst hin;split at h
   ·rename_i y hy;simp only[Option.map_eq_some_iff] at h;obtain⟨ys,hys,rfl⟩:=h;have hv:=hs.evX hy;simp only[ai] at hv;have hkx:=hk (i,x) (by simp)
    have hfold:∀(cs:List Value) (p q:List Value),cs.length<=q.length->(cs.zipIdx.foldl (λacc (c,j)=>acc.setIfInBounds (p.length+j) c) (p++q).toArray)=(p++cs++q.drop cs.length).toArray:=by
     intro cs;have gen:∀(cs:List Value) (m:Nat) (p q:List Value),cs.length<=q.length->((cs.zipIdx m).foldl (λacc (c,j)=>acc.setIfInBounds (p.length+j-m) c) (p++q).toArray)=(p++cs++q.drop cs.length).toArray:=by
      intro cs;induction cs with
      |nil=>intro m p q _;simp
      |cons c cs ih=>
       intro m p q hq;cases q with
       |nil=>simp at hq
       |cons q0 q=>
        simp only[List.zipIdx_cons,List.foldl_cons];have e1:((p++q0::q).toArray.setIfInBounds (p.length+m-m) c)=((p++[c])++q).toArray:=by
         rw[Nat.add_sub_cancel];apply Array.ext';simp[List.set_append_right]
        rw[e1];have e2:=ih (m+1) (p++[c]) q (by simpa using hq)
        have e3:(λ(acc:Array Value) (x:Value×Nat)=>acc.setIfInBounds ((p++[c]).length+x.2-(m+1)) x.1)=(λ(acc:Array Value) (x:Value×Nat)=>acc.setIfInBounds (p.length+x.2-m) x.1):=by
         funext acc x
         congr 1
         simp;omega
        simp only[e3] at e2;rw[e2];simp
     intro p q hq;have:=gen cs 0 p q hq;simpa using this
    have hrl:k<=rest.length:=by rw[hr,List.length_cons,Nat.succ_mul];omega
    have hcl:(a.eval x).cells.toList.length=k:=by rw[Array.length_toList];exact hkx
    obtain⟨vs,h1,h2,h3⟩:=tm (pre:=pre++(a.eval x).cells.toList) (rest:=rest.drop k) hys hs (λp hp=>hk p (by simp[hp])) (by simp[hkx,hp,Nat.succ_mul]) (by rw[List.length_drop,hr,List.length_cons,Nat.succ_mul];omega)
    refine⟨(a.eval x).cells.toList++vs,?_,?_,by simp[hkx,h3,Nat.succ_mul,Nat.add_comm]⟩
    ·simp only[List.map_cons,Instr.fill];rw[if_neg (by simp[hkx,hp];omega)]
     have hz:(a.eval x).cells.zipIdx.foldl (λcs (x:Value×Nat)=>cs.setIfInBounds (i*k+x.2) x.1) (pre++rest).toArray=(pre++(a.eval x).cells.toList++rest.drop k).toArray:=by
      have:=hfold (a.eval x).cells.toList pre rest (by rw[hcl];exact hrl)
      rw[hp,hcl] at this;rw[<-Array.foldl_toList,Array.toList_zipIdx];exact this
     rw[hz,h1];simp
    ·simp only[ax];exact⟨_,vs,rfl,hkx,hv,h2⟩
   ·cases h
  ·cases h
def szD (i:TI):D->Bool
 | .agg cs=>cs.length==i.size
 |_=>i.size==1
theorem Fb {i:TI} {x:D} {v:Value} (h:szD i x=true) (hx:ar w I x v):v.cells.size=i.size:=by
 rw[<-Array.length_toList,hx.cells.length];cases x<;>simp_all [szD,D.cs]
theorem bK.lit (hT:aP P T) {o:Oper} {t e:TypeId} {i ei:TI} {len:Nat} {parts:Array (Nat×Operand)} {xs:List D} (ho:o.op= .buildSlice t len parts) (hi:T t=some i) (hk:i.kind= .slice e) (hei:T e=some ei)
 (hx:fu s 0 parts.toList=some xs) (hlen:len=xs.length) (hsz:xs.all (szD ei)=true) (hsm:len*ei.size<=16777216) (hm:len<=maxLen) (hok:oQ ei=true) (hp:s.pin<=s.S.length)
 (hset:aY {s with S:=s.S++[.arr e ei.size xs]} o.dst (.sl s.S.length len)=some s'):bK P o s s':=λw I L a hs=>by
 have hI:=(hT _ _ hi).kind;rw[hk] at hI;simp only[bx] at hI;obtain⟨z,hz,hzl,hzs⟩:=(hT _ _ hei).zeroValue (w:=w);have hparts:∀ {ps:List (Nat×Operand)} {n:Nat} {ys:List D},fu s n ps=some ys->ys.all (szD ei)=true->ps.length=ys.length/\∀p∈ps,(a.eval p.2).cells.size=ei.size:=by
  intro ps;induction ps with
  |nil=>intro n ys h _;simp[fu] at h;subst h;simp
  |cons p ps ih=>
   obtain⟨i0,x0⟩:=p;intro n ys h hall;unfold fu at h;split at h
   ·split at h
    ·rename_i y hy;simp only[Option.map_eq_some_iff] at h;obtain⟨zs,hzs,rfl⟩:=h;simp only[List.all_cons,Bool.and_eq_true] at hall;obtain⟨e1,e2⟩:=ih hzs hall.2;have hv:=hs.evX hy;simp only[ai] at hv;refine⟨by simp[e1],λp hp=>?_⟩
     rcases List.mem_cons.1 hp with rfl|hp
     ·exact Fb hall.1 hv
     ·exact e2 p hp
    ·cases h
   ·cases h
 obtain⟨q1,q2⟩:=hparts hx hsz;have hrest:((Array.range (len*ei.size)).map (λj=>(if len*ei.size=0 then #[] else z.cells)[j%(if len*ei.size=0 then #[] else z.cells).size]!)).toList.length=parts.toList.length*ei.size:=by
  rw[q1,<-hlen];simp
 obtain⟨vs,h1,h2,h3⟩:=tm (pre:=[]) (rest:=((Array.range (len*ei.size)).map (λj=>(if len*ei.size=0 then #[] else z.cells)[j%(if len*ei.size=0 then #[] else z.cells).size]!)).toList) hx hs q2 (by simp) hrest
 simp only[List.nil_append,Array.toArray_toList] at h1;have hll:vs.length=len*ei.size:=by rw[h3,q1,hlen]
 obtain⟨e1,e2,e3⟩:=nO hs hp (e:=e) (n:=len) h2 hlen.symm hm hll;obtain⟨h4,h5⟩:=bn e1 e2 e3 hset;refine⟨_,_,I,_,_,?_,.inl rfl,h4,h5⟩;have hmap:(parts.map λ(i,x)=>(i,a.eval x)).toList=parts.toList.map λ(i,x)=>(i,a.eval x):=by simp
 have hsm':¬(len*ei.size > 2^24):=by omega
 unfold execOp;simp only[ho,Instr.buildSlice,Sem.run_bind,aS hI,Result.andThen_ok,(hT _ _ hei).sizeOf,if_neg hsm',hmap];by_cases h0:len*ei.size=0
 ·simp only[h0,if_true] at h1 ⊢;simp only[Sem.run_pure,Result.andThen_ok,Sem.run_bind];rw[h1];simp[newRow]
 ·simp only[h0,if_false] at h1 ⊢;simp only[Sem.run_pure,Result.andThen_ok,Sem.run_bind,hz];rw[h1];simp[newRow]
end
end Go.Proofs.YtlhmejigmokbhaaGreatDoor.Pay
