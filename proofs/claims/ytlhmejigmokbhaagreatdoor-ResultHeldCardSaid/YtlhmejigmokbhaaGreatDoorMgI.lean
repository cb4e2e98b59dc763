/- The texts MpB, PayM, PayN, one behind the other. No statement of the seed is proved here. -/
import Derived.Test.YtlhmejigmokbhaaGreatDoorMgE
import Derived.Test.YtlhmejigmokbhaaGreatDoorMgH
import Derived.Laws.IdiomRangeMap
namespace Go.Proofs.YtlhmejigmokbhaaGreatDoor.Pay
open Go Go.RowKit
set_option linter.unusedVariables false
set_option linter.unusedSimpArgs false
def wM (ks es:List D) (k x:D):Option Nat->List D×List D
 |some j=>(ks,es.set j x)
 |none=>(ks++[k],es++[x])
def Bs (S:List Ob):FV->Option (Nat×List D×List D)
 | .mp id=>match S[id]? with
  |some (.map ks es)=>some (id,ks,es)
  |_=>none
 |_=>none
def uY (T:Nat->Option TI) (s:St) (t:TypeId) (m k x:FV):Option (List Ob):=
 (T t).bind λi=>(match i.kind,k,x with
 | .map kt _,.d kd,.d xd=>(T kt).bind λki=>if qq ki.kind kd=true then
  (Bs s.S m).bind λp=>(jA kd p.2.1 0).map λr=>s.S.set p.1 (.map (wM p.2.1 p.2.2 kd xd r).1 (wM p.2.1 p.2.2 kd xd r).2)
  else none
 |_,_,_=>none)
section
variable {P:Program} {T:Nat->Option TI} {w w':World} {I:Nat->Prop} {L:List Lay} {s s':St} {a:Act} {all:Array Oper} {o:Oper} {rest:List Oper} {Q:Exit->St->Prop}
theorem au.set {cs:List D} {vs:List Value} {n:Nat} {x:D} {v:Value} (h:au w I cs vs) (hx:ar w I x v):au w I (cs.set n x) (vs.set n v):=by
 induction cs generalizing vs n with
 |nil=>simp only[au] at h;subst h;simp[au]
 |cons c cs ih=>
  simp only[au] at h;obtain⟨u,r,rfl,h1,h2⟩:=h;cases n with
  |zero=>simp only[List.set_cons_zero,au];exact⟨v,r,rfl,hx,h2⟩
  |succ n=>simp only[List.set_cons_succ,au];exact⟨u,_,rfl,h1,ih h2⟩
theorem fB.push {ents:Array MapEntry} {clock:Nat} (h:fB ents clock) (key val:Value):fB (ents.push {key,val,born:=clock}) (clock+1):=by
 refine⟨by simp[h.1],λi e he=>?_⟩
 rw[Array.getElem?_push] at he;split at he
 ·rename_i hi;cases he;exact h.1.trans hi.symm
 ·exact h.2 i e he
theorem fB.modify {ents:Array MapEntry} {clock:Nat} (h:fB ents clock) (j:Nat) (f:MapEntry->MapEntry) (hf:∀e,(f e).born=e.born):fB (ents.modify j f) clock:=by
 refine⟨by simp[h.1],λi e he=>?_⟩
 rw[Array.getElem?_modify] at he;split at he
 ·rename_i hi;simp only[Option.map_eq_some_iff] at he;obtain⟨e0,he0,rfl⟩:=he;rw[hf];exact h.2 i e0 he0
 ·exact h.2 i e he
theorem iR {r k:Nat} {o:Obj} (hk:k≠r):({w with heap:=w.heap.setIfInBounds r o}:World).heap[k]?=w.heap[k]?:=by
 show(w.heap.setIfInBounds r o)[k]?=_
 simp[Ne.symm hk]
theorem kX {r:Nat} {o:Obj} (hr:r<w.heap.size):({w with heap:=w.heap.setIfInBounds r o}:World).heap[r]?=some o:=by
 show(w.heap.setIfInBounds r o)[r]?=_
 simp[hr]
theorem nA (hs:SR w I L s a) {id r:Nat} {ks es ks' es':List D} {ents ents':Array MapEntry} {clock clock':Nat} (hS:s.S[id]?=some (.map ks es)) (hl:L[id]?=some (.m r)) (hr:w.heap[r]?=some (.map ents clock))
 (hb:fB ents' clock') (h1:au w I ks' (ents'.toList.map (·.key))) (h2:au w I es' (ents'.toList.map (·.val))):
 SR {w with heap:=w.heap.setIfInBounds r (.map ents' clock')} I L {s with S:=s.S.set id (.map ks' es')} a/\
 bq w I L s {w with heap:=w.heap.setIfInBounds r (.map ents' clock')} I L {s with S:=s.S.set id (.map ks' es')}:=by
 have hlt:r<w.heap.size:=(Array.getElem?_eq_some_iff.1 hr).1;have hmem:r∈aB s.S L:=aw hS hl r (by simp[own])
 have hnI:¬I r:=(hs.sep r hmem).1;have hkeep:∀b,I b->({w with heap:=w.heap.setIfInBounds r (.map ents' clock')}:World).heap[b]?=w.heap[b]?:=λb hb=>iR λe=>hnI (e▸hb)
 have hown:own (.map ks' es') (.m r)=own (.map ks es) (.m r):=rfl;have hsz:({w with heap:=w.heap.setIfInBounds r (.map ents' clock')}:World).heap.size=w.heap.size:=by
  show(w.heap.setIfInBounds r _).size=_
  simp
 refine⟨hs.upd hS hl hown (λb _ hb'=>iR λe=>hb' (by simp[own,e])) hsz ?_,bq.upd hS hl hown (λb _ hb'=>iR λe=>hb' (by simp[own,e])) hsz rfl rfl rfl⟩
 exact⟨r,ents',clock',rfl,kX hlt,hb,au.mono hkeep (λ_ h=>h) _ _ h1,au.mono hkeep (λ_ h=>h) _ _ h2⟩
theorem bK.makeMap {o:Oper} {t:TypeId} (ho:o.op= .makeMap t none) (hp:s.pin<=s.S.length) (hset:aY {s with S:=s.S++[.map [] []]} o.dst (.mp s.S.length)=some s'):bK P o s s':=λw I L a hs=>by
 have hsz:(w.alloc (.map #[] 0)).heap.size=w.heap.size+1:=by simp
 have hw:=kv w (.map #[] 0);have hown:∀b∈own (.map [] []) (.m w.heap.size),w.heap.size<=b/\b<(w.alloc (.map #[] 0)).heap.size:=by
  intro b hb;simp[own] at hb;subst hb;omega
 have e1:SR (w.alloc (.map #[] 0)) I (L++[.m w.heap.size]) {s with S:=s.S++[.map [] []]} a:=
  hs.more hw (by omega) ⟨w.heap.size,#[],0,rfl,heap_alloc_new w _,⟨rfl,λi e h=>by simp at h⟩,by simp[au],by simp[au]⟩ hown (by simp[own])
 have e2:bq w I L s (w.alloc (.map #[] 0)) I (L++[.m w.heap.size]) {s with S:=s.S++[.map [] []]}:=bq.more hs hw rfl rfl rfl (by omega) hown hp
 have e3:ai (w.alloc (.map #[] 0)) I (L++[.m w.heap.size]) (.mp s.S.length) (.map (some w.heap.size)):=by
  simp only[ai];exact⟨w.heap.size,by rw[List.getElem?_append_right (by rw[hs.len];exact Nat.le_refl _),hs.len];simp,rfl⟩
 obtain⟨e4,e5⟩:=bn e1 e2 e3 hset;refine⟨_,_,I,_,_,?_,.inl rfl,e4,e5⟩;unfold execOp;simp only[ho,Instr.makeMap,Option.map_none,Sem.run_bind,Result.andThen_ok,run_newObj,Sem.run_pure];rfl
theorem bK.mapUpdate (hT:aP P T) {o:Oper} {t:TypeId} {m k x:Operand} {vm vk vx:FV} {S':List Ob} (ho:o.op= .mapUpdate t m k x) (hm:evX s m=some vm) (hk:evX s k=some vk) (hx:evX s x=some vx)
 (hS:uY T s t vm vk vx=some S') (hset:aY {s with S:=S'} o.dst (.tup [])=some s'):bK P o s s':=λw I L a hs=>by
 unfold uY at hS;simp only[Option.bind_eq_some_iff] at hS;obtain⟨i,hi,hS⟩:=hS;split at hS
 ·rename_i kt et kd xd hkd;simp only[Option.bind_eq_some_iff] at hS;obtain⟨ki,hki,hS⟩:=hS;split at hS
  ·rename_i hcond;simp only[Option.bind_eq_some_iff,Option.map_eq_some_iff] at hS;obtain⟨⟨id,ks,es⟩,hO,r,hr,rfl⟩:=hS;have hvm:=hs.evX hm;have hvk:=hs.evX hk;have hvx:=hs.evX hx;simp only[ai] at hvk hvx;have hti:=(hT _ _ hi).kind;rw[hkd] at hti;simp only[bx] at hti;obtain⟨d,hd,hkey⟩:=mn (hT _ _ hki).kind hcond hvk;unfold Bs at hO;split at hO
   ·rename_i id0;split at hO
    ·rename_i ks0 es0 hS0;cases hO;simp only[ai] at hvm;obtain⟨rb,hl,hvm⟩:=hvm;obtain⟨r',ents,clock,he,hb,hk2,h1,h2⟩:=hs.obs _ _ _ hS0 hl;cases he;have hux:ai w I L (.tup []) undef:=by simp only[ai,ap];exact⟨[],rfl,rfl⟩
     rcases iT hkey hvk h1 hr with⟨rfl,hf⟩|⟨j,e,rfl,hej,hf,hek⟩
     ·have hb':=hk2.push (a.eval k) (a.eval x);obtain⟨e1,e2⟩:=nA hs hS0 hl hb (ks':=ks++[kd]) (es':=es++[xd]) hb' (by
       rw[Array.toList_push,List.map_append];exact au.append h1 (by simp only[List.map_cons,List.map_nil,au];exact⟨_,_,rfl,hvk,rfl⟩)) (by
       rw[Array.toList_push,List.map_append];exact au.append h2 (by simp only[List.map_cons,List.map_nil,au];exact⟨_,_,rfl,hvx,rfl⟩))
      obtain⟨e4,e5⟩:=bn e1 e2 (x:= .tup []) (v:=undef) (by simp only[ai,ap];exact⟨[],rfl,rfl⟩) hset
      refine⟨.skip,_,I,_,_,?_,.inr ⟨rfl,rfl⟩,e4,e5⟩;unfold execOp;simp[ho,hvm,Instr.mapUpdate,run_underlying hti,MapKept.run_getObj_map hb,MapKept.run_checkKey hd hkey,MapKept.run_findKey hd hf,MapKept.run_setObj_map _ hb,Result.andThen]
     ·simp only[Nat.zero_add] at hf hset;have hb':=hk2.modify j (λe=>{e with key:=a.eval k,val:=a.eval x}) (λ_=>rfl)
      have hkeys:(ents.modify j (λe=>{e with key:=a.eval k,val:=a.eval x})).toList.map (·.key)=ents.toList.map (·.key):=MapKept.modify_keys j _ (λe0 he0=>by
       rw[<-Array.getElem?_toList] at he0;rw[hej] at he0;cases he0;exact hek.symm)
      have hvals:(ents.modify j (λe=>{e with key:=a.eval k,val:=a.eval x})).toList.map (·.val)=(ents.toList.map (·.val)).set j (a.eval x):=by
       apply List.ext_getElem?;intro q;simp only[List.getElem?_map,Array.getElem?_toList,Array.getElem?_modify,List.getElem?_set,List.length_map,Array.length_toList];by_cases hq:j=q
       ·subst hq;rw[Array.getElem?_toList] at hej;have hjl:j<ents.size:=(Array.getElem?_eq_some_iff.1 hej).1;simp[hej,hjl]
       ·simp[hq]
      obtain⟨e1,e2⟩:=nA hs hS0 hl hb (ks':=ks) (es':=es.set j xd) hb' (by rw[hkeys];exact h1) (by rw[hvals];exact au.set h2 hvx)
      obtain⟨e4,e5⟩:=bn e1 e2 (x:= .tup []) (v:=undef) (by simp only[ai,ap];exact⟨[],rfl,rfl⟩) hset
      refine⟨.skip,_,I,_,_,?_,.inr ⟨rfl,rfl⟩,e4,e5⟩;have hgk:((ents[j]?).map (·.key)).getD (a.eval k)=a.eval k:=by
       rw[Array.getElem?_toList] at hej;simp[hej,hek]
      unfold execOp;simp[ho,hvm,Instr.mapUpdate,run_underlying hti,MapKept.run_getObj_map hb,MapKept.run_checkKey hd hkey,MapKept.run_findKey hd hf,hgk,MapKept.run_keyThatStays hkey,MapKept.run_setObj_map _ hb,Result.andThen]
    ·cases hO
   ·cases hO
  ·cases hS
 ·cases hS
end
section
variable {P:Program} {T:Nat->Option TI} {w w':World} {I I':Nat->Prop} {L L':List Lay} {s s' s1:St} {a:Act} {all:Array Oper} {o:Oper} {rest:List Oper} {Q:Exit->St->Prop} {c:Code}
theorem hV {S:List Ob}:∀ {xs cs:List FV},aI false S xs=some cs->eb S [] xs cs
 |[],cs,h=>by simp[aI] at h;subst h;trivial
 |x::xs,cs,h=>by
  simp only[aI,Option.bind_eq_some_iff,Option.map_eq_some_iff] at h;obtain⟨y,hy,zs,hz,rfl⟩:=h;exact⟨.inr hy,hV hz⟩
theorem WpO.callD {fx:Operand} {args:Array Operand} {ts:Array TypeId} {g:FuncId} {caps xs cargs:List FV} (hw:bh all s o=some true) (ho:o.op= .call {callee:= .value fx,args,argTypes:=ts})
 (hf:evX s fx=some (.fn g caps)) (hx:evXs s args.toList=some xs) (hv:aI false s.S (xs++caps)=some cargs) (hc:af P g) (hp:s.pin<=s.S.length)
 {R:FV->List Ob->Prop} (hcall:WpF P g cargs [] R)
 (hrest:∀r S1,R r S1->∃s',aY {s with S:=s.S++aF (σ1 s.S.length []) S1} o.dst (ren (σ1 s.S.length []) r)=some s'/\WpO P all rest s' Q):WpO P all (o::rest) s Q:=
 WpO.call hw ho hf hx hc hp [] (by simp) (by simp) (hV hv) ⟨rfl,λj i c h=>by simp at h⟩ hcall (λr S1 hr=>by simpa[bI,aF] using hrest r S1 hr)
def D.flat:D->Bool
 | .bool _| .int _ _| .str _| .flt _ _| .cpx _ _ _| .nil| .nilp| .nili| .any| .nilm=>true
 |_=>false
def D.flats:List D->Bool
 |[]=>true
 |x::r=>x.flat&&D.flats r
def qC:FV->Bool
 | .d (.agg cs)=>D.flats cs
 | .d x=>x.flat
 |_=>false
def mu:List FV->Bool
 |[]=>true
 |x::r=>qC x&&mu r
def jC:FV->Bool
 | .tup vs=>mu vs
 |x=>qC x
theorem D.flat_any {w1 w2:World} {I1 I2:Nat->Prop} {x:D} {v:Value} (h:x.flat=true) (hx:ar w1 I1 x v):ar w2 I2 x v:=by
 cases x<;>simp[D.flat] at h<;>simpa only[ar] using hx
theorem D.flats_any {w1 w2:World} {I1 I2:Nat->Prop}:∀ {xs:List D} {vs:List Value},D.flats xs=true->au w1 I1 xs vs->au w2 I2 xs vs
 |[],vs,_,hx=>by simpa only[au] using hx
 |x::xs,vs,h,hx=>by
  simp only[D.flats,Bool.and_eq_true] at h;simp only[au] at hx ⊢;obtain⟨v,r,h1,h2,h3⟩:=hx;exact⟨v,r,h1,D.flat_any h.1 h2,D.flats_any h.2 h3⟩
theorem nY {w1 w2:World} {I1 I2:Nat->Prop} {L1 L2:List Lay} {x:FV} {v:Value} (h:qC x=true) (hx:ai w1 I1 L1 x v):ai w2 I2 L2 x v:=by
 unfold qC at h;split at h
 ·simp only[ai,ar] at hx ⊢;obtain⟨vs,h1,h2,h3⟩:=hx;exact⟨vs,h1,h2,D.flats_any h h3⟩
 ·simp only[ai] at hx ⊢;exact D.flat_any h hx
 ·cases h
theorem mt {w1 w2:World} {I1 I2:Nat->Prop} {L1 L2:List Lay}:∀ {xs:List FV} {vs:List Value},mu xs=true->ap w1 I1 L1 xs vs->ap w2 I2 L2 xs vs
 |[],vs,_,hx=>by simpa only[ap] using hx
 |x::xs,vs,h,hx=>by
  simp only[mu,Bool.and_eq_true] at h;simp only[ap] at hx ⊢;obtain⟨v,r,h1,h2,h3⟩:=hx;exact⟨v,r,h1,nY h.1 h2,mt h.2 h3⟩
theorem nZ {w1 w2:World} {I1 I2:Nat->Prop} {L1 L2:List Lay} {x:FV} {v:Value} (h:jC x=true) (hx:ai w1 I1 L1 x v):ai w2 I2 L2 x v:=by
 unfold jC at h;split at h
 ·simp only[ai] at hx ⊢;obtain⟨vs,h1,h2⟩:=hx;exact⟨vs,h1,mt h h2⟩
 ·exact nY h hx
theorem WpO.callL {fx:Operand} {args:Array Operand} {ts:Array TypeId} {g:FuncId} {caps xs cargs:List FV} (hw:bh all s o=some true) (ho:o.op= .call {callee:= .value fx,args,argTypes:=ts})
 (hf:evX s fx=some (.fn g caps)) (hx:evXs s args.toList=some xs) (hv:aI true s.S (xs++caps)=some cargs) (hc:af P g)
 {R:FV->List Ob->Prop} (hcall:WpF P g cargs [] R)
 (hrest:∀r S1,R r S1->jC r=true/\∃s',aY s o.dst r=some s'/\WpO P all rest s' Q):WpO P all (o::rest) s Q:=λw I L a hs=>by
 unfold wpList;rw[if_pos (hs.want hw)];refine .inl ?_;have hfv:=hs.evX hf;simp only[ai] at hfv;obtain⟨cvs,hfv,hcv⟩:=hfv;unfold Oper.wp;rw[pT hc ho hfv,Oper.upon_enter];have hargs:ap w (gd I s.S L) [] cargs (args.toList.map a.eval++cvs):=fD hs [] ((hs.evXs hx).append hcv) hv;have hOR:OR w (gd I s.S L) [] []:=⟨rfl,λi o l h=>by simp at h,by simp[aB],λb hb=>by simp[aB] at hb,hs.imm.more (λb hb=> .inl hb) λb hb=>by
  rcases hb with hb|hb
  ·exact hs.imm b hb
  ·exact(hs.sep b hb).2⟩
 refine(hcall w _ [] _ hargs hOR).mono λe w' ⟨r,v,S1,I1,L1,he,hR,hrv,hO1,evo,hle,hlay⟩=>?_
 subst he;obtain⟨hfl,s1,hset,hk⟩:=hrest r S1 hR;show wpList P all _ rest (a.put o.dst v) w'
 have hkeep:∀b,b<w.heap.size->w'.heap[b]?=w.heap[b]?:=λb hb=>evo.keep b hb (by simp[aB])
 have h1:SR w' I L s a:=hs.world (λb hb=>hkeep b (hs.imm b hb)) (λb hb=>hkeep b (hs.sep b hb).2) evo.size
 have h2:bq w I L s w' I L s:=⟨⟨evo.os,evo.tape,evo.output,evo.size,λb hb _=>hkeep b hb,λ_ h=>h,λ_ h=> .inl h,λ_ h=> .inl h⟩,rfl,λ_ _=>rfl⟩
 obtain⟨q1,q2⟩:=bn h1 h2 (nZ hfl hrv) hset;exact bN (λe a' w'' p=>p.from q2) _ _ _ (hk w' I L _ q1)
def Gh (s s':St):Prop:=∀w I L a,SR w I L s a->∃I' L',SR w I' L' s' a/\bq w I L s w I' L' s'
theorem Gh.refl (s:St):Gh s s:=λ_ I L _ hs=>⟨I,L,hs,bq.refl _ _ _ _⟩
theorem Gh.trans {s1 s2 s3:St} (h:Gh s1 s2) (k:Gh s2 s3):Gh s1 s3:=λw I L a hs=>by
 obtain⟨I1,L1,h1,t1⟩:=h w I L a hs;obtain⟨I2,L2,h2,t2⟩:=k w I1 L1 a h1;exact⟨I2,L2,h2,t1.trans t2⟩
theorem WpC.gh (h:Gh s s') (k:WpC P c s' Q):WpC P c s Q:=λw I L a hs=>by
 obtain⟨I1,L1,h1,t1⟩:=h w I L a hs;exact wp_mono (k w I1 L1 a h1) λ_ _ _ p=>p.from t1
theorem WpO.gh (h:Gh s s') (k:WpO P all rest s' Q):WpO P all rest s Q:=λw I L a hs=>by
 obtain⟨I1,L1,h1,t1⟩:=h w I L a hs;exact bN (λ_ _ _ p=>p.from t1) _ _ _ (k w I1 L1 a h1)
theorem WpC.post {Q':Exit->St->Prop} (k:WpC P c s Q') (h:∀e s1,Q' e s1->∃s2,Gh s1 s2/\Q e s2):WpC P c s Q:=λw I L a hs=>
 wp_mono (k w I L a hs) λe a' w' ⟨s1,I1,L1,q,r,t⟩=>by
  obtain⟨s2,g,q2⟩:=h e s1 q;obtain⟨I2,L2,r2,t2⟩:=g w' I1 L1 a' r;exact⟨s2,I2,L2,q2,r2,t.trans t2⟩
theorem Gh.forget {env:List (Nat×FV)} (h:∀t x,get env t=some x->get s.env t=some x):Gh s {s with env:=env}:=λ_ I L _ hs=>
 ⟨I,L,⟨λt x hx=>hs.env t x (h t x hx),hs.nt,hs.len,hs.obs,hs.nodup,hs.sep,hs.imm,hs.defers⟩,⟨Evo.refl _ _ _,rfl,λ_ _=>rfl⟩⟩
def gj (env:List (Nat×FV)):List Nat->Option (List (Nat×FV))
 |[]=>some []
 |t::r=>(get env t).bind λx=>(gj env r).map ((t,x):: ·)
theorem iq {env:List (Nat×FV)}:∀ {ks:List Nat} {env':List (Nat×FV)},gj env ks=some env'->∀t x,get env' t=some x->get env t=some x
 |[],env',h,t,x,hx=>by simp[gj] at h;subst h;simp[get] at hx
 |k::ks,env',h,t,x,hx=>by
  simp only[gj,Option.bind_eq_some_iff,Option.map_eq_some_iff] at h;obtain⟨y,hy,e,he,rfl⟩:=h;simp only[get] at hx;by_cases hk:k=t
  ·rw[if_pos hk] at hx;cases hx;subst hk;exact hy
  ·rw[if_neg hk] at hx;exact iq he t x hx
theorem Gh.keep (ks:List Nat) {env:List (Nat×FV)} (h:gj s.env ks=some env):Gh s {s with env:=env}:=Gh.forget (iq h)
theorem Gh.slot {t:Nat} {x y:FV} (hx:get s.env t=some x) (h:∀w I L a v,SR w I L s a->ai w I L x v->ai w I L y v):Gh s {s with env:=(t,y)::s.env}:=λw I L a hs=>
 ⟨I,L,⟨λt' z hz=>by
  simp only[get] at hz;by_cases ht:t=t'
  ·rw[if_pos ht] at hz;cases hz;subst ht;exact h w I L a _ hs (hs.env t x hx)
  ·rw[if_neg ht] at hz;exact hs.env t' z hz,hs.nt,hs.len,hs.obs,hs.nodup,hs.sep,hs.imm,hs.defers⟩,⟨Evo.refl _ _ _,rfl,λ_ _=>rfl⟩⟩
theorem Gh.view {t:Nat} {x y:FV} (hx:get s.env t=some x) (h:aK false s.S x=some y):Gh s {s with env:=(t,y)::s.env}:=
 Gh.slot hx λ_ _ L _ _ hs hv=>lJ hs L hv h
theorem Gh.renum (perm:List Nat) (hn:perm.Nodup) (hlt:∀i∈perm,i<s.S.length) {env:List (Nat×FV)} {S:List Ob} (he:∀t x,get env t=some x->get s.env t=some (ren (σ0 s.S.length perm) x))
 (hS:mZ s.S perm S) (hp:∀i,i<s.pin->perm[i]?=some i):Gh s {s with env:=env,S:=S}:=λw I L a hs=>by
 obtain⟨hlen,hpo⟩:=hS;have hLc:∃Lc:List Lay,Lc.length=perm.length/\∀(j i:Nat),perm[j]?=some i->Lc[j]?=L[i]?:=by
  refine⟨perm.map λi=>L.getD i (.m 0),by simp,λj i hj=>?_⟩
  have hi:i<L.length:=by rw[hs.len];exact hlt i (List.mem_of_getElem? hj)
  simp[hj,List.getD,List.getElem?_eq_getElem hi]
 obtain⟨Lc,hLl,hLc⟩:=hLc;have hback:∀(j:Nat) (l:Lay),L[σ0 s.S.length perm j]?=some l->Lc[j]?=some l:=by
  intro j l hl;by_cases hj:j<perm.length
  ·rw[hLc j perm[j] (List.getElem?_eq_getElem hj)];simpa[σ0,List.getD,List.getElem?_eq_getElem hj] using hl
  ·have:L.length<=s.S.length:=by rw[hs.len];exact Nat.le_refl _
   simp[σ0,List.getD,List.getElem?_eq_none (Nat.le_of_not_lt hj),List.getElem?_eq_none this] at hl
 have hcS:∀(j:Nat) (c:Ob),S[j]?=some c->∃i,perm[j]?=some i/\s.S[i]?=some (cC (σ0 s.S.length perm) c):=by
  intro j c hj;have hjl:j<perm.length:=by rw[<-hlen];exact(List.getElem?_eq_some_iff.1 hj).1
  exact⟨perm[j],List.getElem?_eq_getElem hjl,hpo j _ c (List.getElem?_eq_getElem hjl) hj⟩
 have hinj:∀(j j' i:Nat),perm[j]?=some i->perm[j']?=some i->j=j':=by
  intro j j' i h1 h2;exact(List.getElem?_inj (List.getElem?_eq_some_iff.1 h1).1 hn).1 (h1.trans h2.symm)
 have hmem:∀b∈aB S Lc,b∈aB s.S L:=by
  intro b hb;obtain⟨j,c,l,h1,h2,h3⟩:=aZ hb;obtain⟨i,h4,h5⟩:=hcS j c h1;exact aw h5 (by rw[<-hLc j i h4];exact h2) b (by rw[cU];exact h3)
 refine⟨I,Lc,⟨λt x hx=>ai.back hback (hs.env t _ (he t x hx)),hs.nt,by rw[hLl];exact hlen.symm,λj c l h1 h2=>?_,cY λj j' c c' l l' hne h1 h2 h3 h4 b hb hb'=>?_,λb hb=>hs.sep b (hmem b hb),hs.imm,hs.defers⟩,
  ⟨⟨rfl,rfl,rfl,Nat.le_refl _,λ_ _ _=>rfl,λ_ h=>h,λ_ h=> .inl h,λb hb=> .inl (hmem b hb)⟩,rfl,λi hi=>hLc i i (hp i hi)⟩⟩
 ·obtain⟨i,h4,h5⟩:=hcS j c h1;exact b7.back hback (hs.obs i _ l h5 (by rw[<-hLc j i h4];exact h2))
 ·obtain⟨i,h5,h6⟩:=hcS j c h1;obtain⟨i',h7,h8⟩:=hcS j' c' h3;have hii:i≠i':=λe=>hne (hinj j j' i h5 (e▸h7))
  exact aR hs.nodup h6 (by rw[<-hLc j i h5];exact h2) h8 (by rw[<-hLc j' i' h7];exact h4) hii b (by rw[cU];exact hb) (by rw[cU];exact hb')
theorem Gh.freeze {id:Nat} {e:TypeId} {k:Nat} {xs:List D} (hS:s.S[id]?=some (.arr e k xs)):Gh s {s with S:=s.S.set id (.frz k xs)}:=λw I L a hs=>by
 have hlt:id<L.length:=by rw[hs.len];exact(List.getElem?_eq_some_iff.1 hS).1
 obtain⟨l,hl⟩:∃l,L[id]?=some l:=⟨L[id],List.getElem?_eq_getElem hlt⟩
 obtain⟨d1,d2⟩:=ip (o':= .frz k xs) hS hl (by cases l<;>rfl) hs.nodup
 have hI:∀b,I b->(I b\/b∈own (.arr e k xs) l):=λb hb=> .inl hb
 refine⟨λb=>I b\/b∈own (.arr e k xs) l,L,⟨λt x hx=>ai.mono (λ_ _=>rfl) hI (λ_ _ h=>h) _ _ (hs.env t x hx),hs.nt,by simp[hs.len],?_,d1,?_,?_,hs.defers⟩,
  ⟨⟨rfl,rfl,rfl,Nat.le_refl _,λ_ _ _=>rfl,hI,λb hb=>?_,λb hb=> .inl (d2 b hb).1⟩,rfl,λ_ _=>rfl⟩⟩
 ·intro j oj lj h1 h2;by_cases hj:id=j
  ·subst hj;have h1':(s.S.set id (.frz k xs))[id]?=some oj:=h1;rw[List.getElem?_set_self (List.getElem?_eq_some_iff.1 hS).1] at h1';cases h1';rw[hl] at h2;cases h2;rcases hs.obs _ _ _ hS hl with⟨base,cp,vs,rfl,hown,hr⟩|⟨hd,rfl,rfl⟩
   ·refine⟨Lay.head base,cp,rfl,?_⟩;simp only[ar];have hcap:=(lY hs hS hl (show(Lay.a base cp).hdr=some (Lay.head base,cp) from rfl)).1
    refine⟨_,cp,rfl,hcap,?_⟩;by_cases hx0:xs=[]
    ·exact .inl hx0
    ·right
     have hx1:0<xs.length:=by cases xs<;>simp_all
     obtain⟨b,hb,_⟩:=(lY hs hS hl (show(Lay.a base cp).hdr=some (Lay.head base,cp) from rfl)).2 hx1
     cases hb;refine⟨b,0,vs,rfl,.inr (by simp[own]),?_,ax.mono (λ_ _=>rfl) hI _ _ _ hr⟩
     by_cases h0:0<vs.length
     ·obtain⟨b',hb',hc⟩:=bS hown h0;cases hb';exact hc
     ·have:vs=[]:=List.eq_nil_of_length_eq_zero (by omega)
      subst this;intro q v hv;simp at hv
   ·refine⟨hd,0,rfl,?_⟩;simp only[ar];exact⟨hd,0,rfl,by simp,.inl trivial⟩
  ·have h1':(s.S.set id (.frz k xs))[j]?=some oj:=h1;rw[List.getElem?_set_ne hj] at h1';exact b7.mono (λ_ _=>rfl) hI (λ_ _ h=>h) (λ_ _=>rfl) (hs.obs j oj lj h1' h2)
 ·intro b hb;have h1:=d2 b hb;have h2:=hs.sep b h1.1;exact⟨λh=>h.elim h2.1 h1.2,h2.2⟩
 ·refine hs.imm.more hI λb hb=>?_
  rcases hb with hb|hb
  ·exact hs.imm b hb
  ·exact(hs.sep b (aw hS hl b hb)).2
 ·rcases hb with hb|hb
  ·exact .inl hb
  ·exact .inr (.inl (aw hS hl b hb))
theorem Gh.nilArr {t:Nat} (e k:Nat) (hx:get s.env t=some (.d .nil)) (hp:s.pin<=s.S.length):Gh s {s with env:=(t,.sl s.S.length 0)::s.env,S:=s.S++[.arr e k []]}:=λw I L a hs=>by
 have hor:b7 w I (L++[.a none 0]) (.arr e k []) (.a none 0):= .inl ⟨none,0,[],rfl,World.ownsRow_nil w 0 e k,by simp[ax]⟩
 have r1:=hs.more (w':=w) (λ_ _=>rfl) (Nat.le_refl _) hor (λb hb=>by simp[own] at hb) (dE _ _)
 have r2:=bq.more (w':=w) hs (λ_ _=>rfl) rfl rfl rfl (Nat.le_refl _) (o:= .arr e k []) (l:= .a none 0) (λb hb=>by simp[own] at hb) hp
 refine⟨I,L++[.a none 0],⟨λt' z hz=>?_,r1.nt,r1.len,r1.obs,r1.nodup,r1.sep,r1.imm,r1.defers⟩,r2.evo,r2.pin,r2.lay⟩
 simp only[get] at hz;by_cases ht:t=t'
 ·rw[if_pos ht] at hz;cases hz;subst ht;have h1:=hs.env t _ hx;simp only[ai,ar] at h1 ⊢;exact⟨.a none 0,none,0,by rw[List.getElem?_append_right (by rw[hs.len];exact Nat.le_refl _),hs.len];simp,rfl,h1⟩
 ·rw[if_neg ht] at hz;exact r1.env t' z hz
def ky (T:Nat->Option TI) (o:Oper) (s:St):Option St:=
 match o.op with
 | .alloc t=>(T t).bind λi=>if s.pin<=s.S.length then aY {s with S:=s.S++[.cells t (i.zero.map .d)]} o.dst (.ref s.S.length 0) else none
 | .box t x=>(evX s x).bind λv=>if kg v=true/\s.pin<=s.S.length then aY {s with S:=s.S++[.cells t (bu v)]} o.dst (.ref s.S.length 0) else none
 | .store t p x=>(evX s p).bind λvp=>(evX s x).bind λvx=>(kP T s t vp vx).bind λS'=>aY {s with S:=S'} o.dst (.tup [])
 | .makeSlice t l c=>(T t).bind λi=>(match i.kind with
  | .slice e=>(T e).bind λei=>(match evX s l,evX s c with
   |some (.d (.int _ n)),some (.d (.int _ m))=>if n=m/\0<=n/\ei.bytes<=16384/\n<=8589934592/\oQ ei=true/\s.pin<=s.S.length then
    aY {s with S:=s.S++[.arr e ei.size (List.replicate n.toNat ei.zeroD)]} o.dst (.sl s.S.length n.toNat) else none
   |_,_=>none)
  |_=>none)
 | .buildSlice t len parts=>(T t).bind λi=>(match i.kind with
  | .slice e=>(T e).bind λei=>(fu s 0 parts.toList).bind λxs=>
   if len=xs.length/\xs.all (szD ei)=true/\len*ei.size<=16777216/\len<=8589934592/\oQ ei=true/\s.pin<=s.S.length then aY {s with S:=s.S++[.arr e ei.size xs]} o.dst (.sl s.S.length len) else none
  |_=>none)
 | .build t parts=>(BY T s t parts.toList).bind λv=>aY s o.dst v
 | .makeMap _ none=>if s.pin<=s.S.length then aY {s with S:=s.S++[.map [] []]} o.dst (.mp s.S.length) else none
 | .mapUpdate t m k x=>(evX s m).bind λvm=>(evX s k).bind λvk=>(evX s x).bind λvx=>(uY T s t vm vk vx).bind λS'=>aY {s with S:=S'} o.dst (.tup [])
 | .call {callee:= .builtin .append,args,argTypes}=>(match args.toList,argTypes.toList with
  |[sx,yx],[t,u]=>(evX s sx).bind λvx=>(evX s yx).bind λvy=>(u4 T s t u vx vy).bind λp=>
   if s.pin<=s.S.length then aY {s with S:=p.1} o.dst (.sl s.S.length p.2) else none
  |_,_=>none)
 | .call {callee:= .builtin .copy,args,argTypes}=>(match args.toList,argTypes.toList with
  |[dx,yx],[t,_]=>(evX s dx).bind λvx=>(evX s yx).bind λvy=>(u0 T s t vx vy).bind λp=>aY {s with S:=p.1} o.dst (.d (.int .i64 p.2))
  |_,_=>none)
 |_=>(evA T s o.op).bind λx=>aY s o.dst x
theorem lg (hT:aP P T) (h:ky T o s=some s'):bK P o s s':=by
 unfold ky at h;split at h
 ·rename_i t ho;simp only[Option.bind_eq_some_iff] at h;obtain⟨i,hi,h⟩:=h;split at h
  ·rename_i hp;exact bK.alloc hT ho hi hp h
  ·cases h
 ·rename_i t x ho;simp only[Option.bind_eq_some_iff] at h;obtain⟨v,hv,h⟩:=h;split at h
  ·rename_i hp;exact bK.box ho hv hp.1 hp.2 h
  ·cases h
 ·rename_i t p x ho;simp only[Option.bind_eq_some_iff] at h;obtain⟨vp,hp,vx,hx,S',hS,h⟩:=h;exact bK.store hT ho hp hx hS h
 ·rename_i t l c ho;simp only[Option.bind_eq_some_iff] at h;obtain⟨i,hi,h⟩:=h;split at h
  ·rename_i e hk;simp only[Option.bind_eq_some_iff] at h;obtain⟨ei,hei,h⟩:=h;split at h
   ·rename_i k1 n k2 m hl hc;split at h
    ·rename_i hcond;obtain⟨rfl,h0,hb,hsm,hok,hp⟩:=hcond;have hn:n.toNat<=8589934592:=by omega
     obtain⟨q1,q2⟩:=eS hn hb;exact bK.make hT ho hi hk hei hl hc h0 (by rw[Nat.mul_comm];omega) q2 hok hp h
    ·cases h
   ·cases h
  ·cases h
 ·rename_i t len parts ho;simp only[Option.bind_eq_some_iff] at h;obtain⟨i,hi,h⟩:=h;split at h
  ·rename_i e hk;simp only[Option.bind_eq_some_iff] at h;obtain⟨ei,hei,xs,hx,h⟩:=h;split at h
   ·rename_i hcond;obtain⟨h1,h2,h3,h4,h5,h6⟩:=hcond;exact bK.lit hT ho hi hk hei hx h1 h2 h3 (by simp only[maxLen];omega) h5 h6 h
   ·cases h
  ·cases h
 ·rename_i t parts ho;simp only[Option.bind_eq_some_iff] at h;obtain⟨v,hv,h⟩:=h;exact bK.build hT ho hv h
 ·rename_i t ho;split at h
  ·rename_i hp;exact bK.makeMap ho hp h
  ·cases h
 ·rename_i t m k x ho;simp only[Option.bind_eq_some_iff] at h;obtain⟨vm,hm,vk,hk,vx,hx,S',hS,h⟩:=h;exact bK.mapUpdate hT ho hm hk hx hS h
 ·rename_i args ts ho;split at h
  ·rename_i sx yx t u e1 e2;simp only[Option.bind_eq_some_iff] at h;obtain⟨vx,hx,vy,hy,p,hp,h⟩:=h;have e1':args= #[sx,yx]:=by apply Array.ext';simpa using e1
   have e2':ts= #[t,u]:=by apply Array.ext';simpa using e2
   subst e1';subst e2';split at h
   ·rename_i hpin;exact bK.append hT ho hx hy (S':=p.1) (n':=p.2) hp hpin h
   ·cases h
  ·cases h
 ·rename_i args ts ho;split at h
  ·rename_i dx yx t u e1 e2;simp only[Option.bind_eq_some_iff] at h;obtain⟨vx,hx,vy,hy,p,hp,h⟩:=h;have e1':args= #[dx,yx]:=by apply Array.ext';simpa using e1
   have e2':ts= #[t,u]:=by apply Array.ext';simpa using e2
   subst e1';subst e2';exact bK.copy hT ho hx hy (S':=p.1) (n':=p.2) hp h
  ·cases h
 ·simp only[Option.bind_eq_some_iff] at h;obtain⟨x,hx,h⟩:=h;exact bK.val hT hx h
def go (T:Nat->Option TI) (all:Array Oper):Nat->List Oper->St->Option (List Oper×St)
 |0,l,s=>some (l,s)
 |_+1,[],s=>some ([],s)
 |n+1,o::l,s=>(bh all s o).bind λb=>((if b=true then ky T o s else aY s o.dst (.tup [])):Option St).bind λs'=>go T all n l s'
theorem WpO.run (hT:aP P T):∀(n:Nat) {rest rest':List Oper} {s s':St},go T all n rest s=some (rest',s')->WpO P all rest' s' Q->WpO P all rest s Q
 |0,rest,rest',s,s',h,k=>by simp[go] at h;obtain⟨rfl,rfl⟩:=h;exact k
 |n+1,[],rest',s,s',h,k=>by simp[go] at h;obtain⟨rfl,rfl⟩:=h;exact k
 |n+1,o::l,rest',s,s',h,k=>by
  simp only[go,Option.bind_eq_some_iff] at h;obtain⟨b,hb,s1,h1,h2⟩:=h;have hk:=WpO.run hT n h2 k;cases b with
  |true=>exact WpO.step hb (lg hT (by simpa using h1)) hk
  |false=>exact WpO.skip hb (by simpa using h1) hk
theorem WpC.ops (hT:aP P T) {id:Nat} {ops:Array Oper} {r:List Oper} (h:go T ops ops.size ops.toList s=some (r,s')) (hr:r=[]) (k:Q .normal s'):WpC P (.region id ops false) s Q:=by
 subst hr;exact WpC.region (WpO.run hT _ h (WpO.nil k))
end
mutual
def fm (n:Nat):FV->Bool
 | .d _=>true
 | .ref id _=>decide (id<n)
 | .sl id _=>decide (id<n)
 | .er id _ _ _=>decide (id<n)
 | .dp _=>true
 | .agg cs=>hU n cs
 | .fn _ cs=>hU n cs
 | .tup cs=>hU n cs
 | .mp id=>decide (id<n)
 | .so id _ _ _=>decide (id<n)
 | .sc id _ _=>decide (id<n)
 | .dead=>true
def hU (n:Nat):List FV->Bool
 |[]=>true
 |x::r=>fm n x&&hU n r
end
def kB (n:Nat):List (Nat×FV)->Bool
 |[]=>true
 |(_,x)::r=>fm n x&&kB n r
def pv (n:Nat):Ob->Bool
 | .cells _ cs=>hU n cs
 |_=>true
def iW (n:Nat):List Ob->Bool
 |[]=>true
 |o::r=>pv n o&&iW n r
mutual
theorem nI {σ:Nat->Nat} {n:Nat} (h:∀i,i<n->σ i=i):∀ {x:FV},fm n x=true->ren σ x=x
 | .d _,_=>by simp[ren]
 | .ref id _,hx=>by simp[fm] at hx;simp[ren,h id hx]
 | .sl id _,hx=>by simp[fm] at hx;simp[ren,h id hx]
 | .er id _ _ _,hx=>by simp[fm] at hx;simp[ren,h id hx]
 | .dp _,_=>by simp[ren]
 | .agg cs,hx=>by simp only[fm] at hx;simp[ren,eC h hx]
 | .fn _ cs,hx=>by simp only[fm] at hx;simp[ren,eC h hx]
 | .tup cs,hx=>by simp only[fm] at hx;simp[ren,eC h hx]
 | .mp id,hx=>by simp[fm] at hx;simp[ren,h id hx]
 | .so id _ _ _,hx=>by simp[fm] at hx;simp[ren,h id hx]
 | .sc id _ _,hx=>by simp[fm] at hx;simp[ren,h id hx]
 | .dead,_=>by simp[ren]
theorem eC {σ:Nat->Nat} {n:Nat} (h:∀i,i<n->σ i=i):∀ {xs:List FV},hU n xs=true->eL σ xs=xs
 |[],_=>by simp[eL]
 |x::r,hx=>by simp only[hU,Bool.and_eq_true] at hx;simp[eL,nI h hx.1,eC h hx.2]
end
theorem mQ {n:Nat}:∀ {e:List (Nat×FV)} {t:Nat} {x:FV},kB n e=true->get e t=some x->fm n x=true
 |[],t,x,_,h=>by simp[get] at h
 |(k,y)::r,t,x,hb,h=>by
  simp only[kB,Bool.and_eq_true] at hb;simp only[get] at h;by_cases hk:k=t
  ·rw[if_pos hk] at h;cases h;exact hb.1
  ·rw[if_neg hk] at h;exact mQ hb.2 h
theorem mP {n:Nat}:∀ {S:List Ob} {j:Nat} {o:Ob},iW n S=true->S[j]?=some o->pv n o=true
 |[],j,o,_,h=>by simp at h
 |x::r,0,o,hb,h=>by simp only[iW,Bool.and_eq_true] at hb;simp at h;exact h▸hb.1
 |x::r,j+1,o,hb,h=>by simp only[iW,Bool.and_eq_true] at hb;exact mP hb.2 (by simpa using h)
section
variable {P:Program} {T:Nat->Option TI} {w w':World} {I I':Nat->Prop} {L L':List Lay} {s s' s1:St} {a:Act} {all:Array Oper} {o:Oper} {rest:List Oper} {Q:Exit->St->Prop} {c:Code}
theorem Gh.cut (ks:List Nat) (S1 S2:List Ob) {env:List (Nat×FV)} (he:gj s.env ks=some env) (hS:s.S=S1++S2) (h1:kB S1.length env=true) (h2:iW S1.length S1=true) (hp:s.pin<=S1.length):
 Gh s {s with env:=env,S:=S1}:=by
 have hσ:∀i,i<S1.length->σ0 s.S.length (List.range S1.length) i=i:=by
  intro i hi;simp[σ0,List.getD,List.getElem?_range hi]
 refine Gh.renum (List.range S1.length) List.nodup_range (λi hi=>by rw[hS];simp at hi ⊢;omega) (λt x hx=>?_) ⟨by simp,λj i c h3 h4=>?_⟩ (λi hi=>List.getElem?_range (by omega))
 ·rw[nI hσ (mQ h1 hx)];exact iq he t x hx
 ·have hj:j<S1.length:=by simpa using(List.getElem?_eq_some_iff.1 h3).1
  rw[List.getElem?_range hj] at h3;cases h3;have hc:cC (σ0 s.S.length (List.range S1.length)) c=c:=by
   have:=mP h2 h4;cases c<;>simp only[cC,pv] at this ⊢;rw[eC hσ this]
  rw[hc,hS,List.getElem?_append_left hj];exact h4
theorem Gh.cut' (ks:List Nat) (n:Nat) {env env':List (Nat×FV)} {S S1:List Ob} {nt pin:Nat} (he:gj env ks=some env') (hS:S.take n=S1) (hn:S1.length=n) (h1:kB n env'=true) (h2:iW n S1=true) (hp:pin<=n):
 Gh ⟨env,S,nt,pin⟩ ⟨env',S1,nt,pin⟩:=by
 have:=Gh.cut (s:=⟨env,S,nt,pin⟩) ks S1 (S.drop n) (env:=env') he (by rw[<-hS];simp) (by rw[hn];exact h1) (by rw[hn];exact h2) (by rw[hn];exact hp)
 exact this
def wv (σ:Nat->Nat):List (Nat×FV)->List (Nat×FV)
 |[]=>[]
 |(t,x)::r=>(t,ren σ x)::wv σ r
theorem qz {σ:Nat->Nat}:∀ {e:List (Nat×FV)} {t:Nat} {x:FV},get e t=some x->get (wv σ e) t=some (ren σ x)
 |[],t,x,h=>by simp[get] at h
 |(k,y)::r,t,x,h=>by
  simp only[get,wv] at h ⊢;by_cases hk:k=t
  ·rw[if_pos hk] at h ⊢;cases h;rfl
  ·rw[if_neg hk] at h ⊢;exact qz h
def jn (S:List Ob):List Nat->Option (List Ob)
 |[]=>some []
 |i::r=>(S[i]?).bind λo=>(jn S r).map (o:: ·)
theorem kh {S:List Ob}:∀ {p:List Nat} {S1:List Ob},jn S p=some S1->S1.length=p.length/\∀(j i:Nat) (o:Ob),p[j]?=some i->S1[j]?=some o->S[i]?=some o
 |[],S1,h=>by simp[jn] at h;subst h;simp
 |i::r,S1,h=>by
  simp only[jn,Option.bind_eq_some_iff,Option.map_eq_some_iff] at h;obtain⟨o,ho,q,hq,rfl⟩:=h;obtain⟨h1,h2⟩:=kh hq;refine⟨by simp[h1],λj i' o' hj ho'=>?_⟩
  cases j with
  |zero=>simp at hj ho';subst hj;subst ho';exact ho
  |succ j=>exact h2 j i' o' (by simpa using hj) (by simpa using ho')
theorem l6 {σ:Nat->Nat}:∀ {S:List Ob} {j:Nat} {o:Ob},S[j]?=some o->(aF σ S)[j]?=some (cC σ o)
 |[],j,o,h=>by simp at h
 |x::r,0,o,h=>by simp at h;subst h;simp[aF]
 |x::r,j+1,o,h=>by simp only[aF,List.getElem?_cons_succ];exact l6 (by simpa using h)
theorem j_ {σ:Nat->Nat}:∀ {S:List Ob},(aF σ S).length=S.length
 |[]=>rfl
 |x::r=>by simp[aF,j_]
theorem Gh.pick (ks perm:List Nat) {env env1 env':List (Nat×FV)} {S S1 S':List Ob} {nt pin:Nat} (he:gj env ks=some env1) (h1:wv (σ0 S.length perm) env'=env1) (hn:perm.Nodup) (hlt:∀i∈perm,i<S.length)
 (hS:jn S perm=some S1) (h2:aF (σ0 S.length perm) S'=S1) (hp:∀i,i<pin->perm[i]?=some i):Gh ⟨env,S,nt,pin⟩ ⟨env',S',nt,pin⟩:=by
 obtain⟨h3,h4⟩:=kh hS;refine Gh.renum (s:=⟨env,S,nt,pin⟩) perm hn hlt (λt x hx=>?_) ⟨?_,λj i c hj hc=>?_⟩ hp
 ·have:=qz (σ:=σ0 S.length perm) hx;rw[h1] at this;exact iq he _ _ this
 ·rw[<-h3,<-h2,j_]
 ·refine h4 j i _ hj ?_;rw[<-h2];exact l6 hc
theorem Gh.same (h:s=s'):Gh s s':=h▸Gh.refl s
theorem WpC.count (n:Nat) (st:Nat->St) (h0:Gh s (st 0))
 (hr:∀k,k<=n->WpC P c (st k) (λe s'=>match e with| .normal=>k<n/\Gh s' (st (k+1))|e=>Q e s')):WpC P (.loop c) s Q:=
 WpC.gh h0 (WpC.loop (λm s=>∃k,k+m=n/\s=st k) n ⟨0,by omega,rfl⟩ λm s1 ⟨k,hk,he⟩=>by
  subst he;refine WpC.post (hr k (by omega)) λe s1 h=>?_
  cases e with
  |normal=>exact⟨_,h.2,m-1,by omega,k+1,by omega,rfl⟩
  |_=>exact⟨_,Gh.refl _,h⟩)
theorem WpC.countP (n:Nat) (J:Nat->St->Prop) (h0:∃s0,Gh s s0/\J 0 s0)
 (hr:∀k s,k<=n->J k s->WpC P c s (λe s'=>match e with| .normal=>k<n/\∃s1,Gh s' s1/\J (k+1) s1|e=>Q e s')):WpC P (.loop c) s Q:=by
 obtain⟨s0,g0,j0⟩:=h0;refine WpC.gh g0 (WpC.loop (λm s=>∃k,k+m=n/\J k s) n ⟨0,by omega,j0⟩ λm s1 ⟨k,hk,hj⟩=>?_)
 refine WpC.post (hr k s1 (by omega) hj) λe s1 h=>?_
 cases e with
 |normal=>
  obtain⟨h1,s2,h2,h3⟩:=h;exact⟨s2,h2,m-1,by omega,k+1,by omega,h3⟩
 |_=>exact⟨_,Gh.refl _,h⟩
theorem WpC.while (J:Nat->St->Prop) (n:Nat) (h0:∃s0,Gh s s0/\J n s0)
 (hr:∀n s,J n s->WpC P c s (λe s'=>match e with| .normal=>∃m,m<n/\∃s1,Gh s' s1/\J m s1|e=>Q e s')):WpC P (.loop c) s Q:=by
 obtain⟨s0,g0,j0⟩:=h0;refine WpC.gh g0 (WpC.loop J n j0 λm s1 hj=>?_)
 refine WpC.post (hr m s1 hj) λe s1 h=>?_
 cases e with
 |normal=>
  obtain⟨m',h1,s2,h2,h3⟩:=h;exact⟨s2,h2,m',h1,h3⟩
 |_=>exact⟨_,Gh.refl _,h⟩
end
theorem am {n:Int} (h1: -9223372036854775808<=n) (h2:n<=9223372036854775807):IntKind.i64.wrap n=n:=by
 simp[IntKind.wrap,IntKind.bits,IntKind.signed];omega
theorem Kz {α β:Type} (f:β->α->β) (b:β) {l:List α} {k:Nat} (h:k<l.length):(l.take (k+1)).foldl f b=f ((l.take k).foldl f b) l[k]:=by
 rw[List.take_add_one,List.getElem?_eq_getElem h];simp only[Option.toList_some,List.foldl_append,List.foldl_cons,List.foldl_nil]
theorem map_take {α β:Type} (f:α->β) {l:List α} {k:Nat} (h:k<l.length):(l.take (k+1)).map f=(l.take k).map f++[f l[k]]:=by
 rw[List.take_add_one,List.getElem?_eq_getElem h];simp only[Option.toList_some,List.map_append,List.map_cons,List.map_nil]
theorem KJ {α:Type} {l:List α} {k:Nat} (h:k<l.length):l.drop k=l[k]::l.drop (k+1):=List.drop_eq_getElem_cons h
end Go.Proofs.YtlhmejigmokbhaaGreatDoor.Pay
