/- The texts PayX, PayY, ScA, one behind the other. No statement of the seed is proved here. -/
import Derived.Test.YtlhmejigmokbhaaGreatDoorMgL
import Derived.ScopeJumps
namespace Go.Proofs.YtlhmejigmokbhaaGreatDoor.Pay
open Go Go.RowKit
set_option linter.unusedSimpArgs false
set_option linter.unusedVariables false
structure TrC where
 i:Nat
 mids:List Nat
 ids:List Nat
 nid:Nat
 rd:List Nat
 sh:List Nat
 st:Bool
def cD (ops:Array Oper) (t:TrC):Option Nat:=(ops[t.i]?).bind (·.dst)
def cL (ops:Array Oper) (t:TrC):List Nat:=match ops[t.i]? with
 |none=>[]
 |some o=>jv ops o
def Fe (tr:List TrC) (i:Nat):Bool:=tr.all λu=>u.st||!u.mids.contains i
def rB (ops:Array Oper) (tr:List TrC) (t u:TrC):Bool:=
 (match cD ops u with|some d=>(cL ops t).contains d||cD ops t==some d|none=>false)||u.mids.any (λi=>t.rd.contains i||t.mids.contains i)||t.sh.any (λi=>!Fe tr i&&u.mids.contains i)||
  (t.mids.contains t.nid&&u.ids.contains t.nid)
def wF (ops:Array Oper) (tr:List TrC) (t u:TrC):Bool:=
 u.i==t.i||!rB ops tr t u||(if u.i<t.i then r6 ops t.i u.i&&!(t.mids.contains t.nid&&(u.ids.contains t.nid||u.mids.contains t.nid)) else r6 ops u.i t.i)
def FH (ops:Array Oper) (N0 N1:Nat) (tr:List TrC):Bool:=
 tr.length==ops.size&&(List.range ops.size).all (λi=>match ops[i]? with|none=>true|some o=>o.after.all λe=>!Region.binds .any e||decide (e.on<i))&&
  tr.all λt=>(!t.mids.contains t.nid||decide (N0<=t.nid/\t.nid<N1))&&tr.all λu=>wF ops tr t u
def TrE.c (t:TrE):TrC:=⟨t.i,t.mids,dV t.e,t.nid,t.rd,t.sh,t.st⟩
def la:Op->Bool
 | .store _ _ _=>true
 |_=>false
def DrO (P:Program) (T:Nat->Option TI) (ops:Array Oper):List Oper->St->Nat->List TrC->(St->List TrC->Prop)->Prop
 |[],s,_,tr,K=>K s tr
 |o::l,s,nid,tr,K=>∃e rd sh st nid',ia P T ops o s nid e rd sh/\(st=true->∀i:Nat,((e.app o.dst s).S[i]?).map shp=(s.S[i]?).map shp)/\
  DrO P T ops l (e.app o.dst s) nid' (⟨tr.length,e.mods.map (·.1),dV e,nid,rd,sh,st⟩::tr) K
section
variable {P:Program} {T:Nat->Option TI} {w w':World} {I I':Nat->Prop} {L L':List Lay} {s s' s1 s2 s0:St} {a:Act} {all ops:Array Oper} {o:Oper} {rest:List Oper} {Q:Exit->St->Prop} {c:Code} {X Y:Nat->Bool} {K:St->List TrC->Prop} {tr:List TrC} {nid:Nat}
theorem vB {t:TrE} {tr:List TrE} (htr:mX P T ops s0 tr) (h:t∈tr):t.d=cD ops t.c/\t.lk=cL ops t.c:=by
 induction tr with
 |nil=>simp at h
 |cons x r ih=>
  rcases List.mem_cons.1 h with rfl|h
  ·obtain⟨_,_,o,ho,hd,hl,_⟩:=htr;simp[cD,cL,TrE.c,ho,hd,hl]
  ·exact ih htr.1 h
theorem FG {tr:List TrE} {N0 N1:Nat} (htr:mX P T ops s0 tr):FH ops N0 N1 (tr.map TrE.c)=B2 ops N0 N1 tr:=by
 have hsh:∀i,Fe (tr.map TrE.c) i=wa tr i:=λi=>by
  unfold Fe wa;rw[List.all_map];rfl
 have htc:∀t∈tr,∀u∈tr,rB ops (tr.map TrE.c) t.c u.c=dl tr t u:=λt ht u hu=>by
  unfold rB dl;rw[<-(vB htr ht).1,<-(vB htr ht).2,<-(vB htr hu).1];simp only[hsh];rfl
 have hpc:∀t∈tr,∀u∈tr,wF ops (tr.map TrE.c) t.c u.c=p_ ops tr t u:=λt ht u hu=>by
  unfold wF p_;rw[htc t ht u hu];rfl
 have hall:∀(f g:TrE->Bool),(∀t∈tr,f t=g t)->tr.all f=tr.all g:=by
  intro f g;clear hsh htc hpc htr;induction tr with
  |nil=>intro _;rfl
  |cons x r ih=>intro h;simp only[List.all_cons];rw[h x (by simp),ih λt ht=>h t (by simp[ht])]
 unfold FH B2;rw[List.length_map,List.all_map];congr 1
 refine hall _ _ λt ht=>?_
 show(_&&(tr.map TrE.c).all _)=_
 rw[List.all_map];congr 1
 exact hall _ _ λu hu=>hpc t ht u hu
theorem DW:∀ {l:List Oper} {s:St} {nid:Nat} {trE:List TrE},(∀j,l[j]?=ops[trE.length+j]?)->mX P T ops s0 trE->stX (λ_=>true) s0 trE=s->DrO P T ops l s nid (trE.map TrE.c) K->
 ∃tr2,mX P T ops s0 tr2/\K (stX (λ_=>true) s0 tr2) (tr2.map TrE.c)
 |[],s,nid,trE,_,htr,hs,h=>⟨trE,htr,by rw[hs];exact h⟩
 |o::l,s,nid,trE,hl,htr,hs,h=>by
  obtain⟨e,rd,sh,st,nid',hev,hst,hrest⟩:=h;have ho:ops[trE.length]?=some o:=by simpa using(hl 0).symm
  refine DW (trE:=⟨trE.length,o.dst,jv ops o,e,nid,rd,sh,st⟩::trE) (s:=e.app o.dst s) (nid:=nid') (l:=l) (λj=>?_) ⟨htr,rfl,o,ho,rfl,rfl,by rw[hs];exact hev,by rw[hs];exact hst⟩ ?_ ?_
  ·have:=hl (j+1);simpa[Nat.add_assoc,Nat.add_comm 1 j] using this
  ·simp only[stX,if_true];rw[hs]
  ·simpa[TrE.c,TrE.mids] using hrest
theorem WpC.drawn (hT:aP P T) (hm:P.follows .mixedOrders=true) {id:Nat} (m:Nat) (hp:s.pin<=s.S.length)
 (h:DrO P T ops ops.toList ⟨s.env,s.S++List.replicate m .gone,s.nt,s.pin⟩ s.S.length [] λs1 tr=>FH ops s.S.length (s.S.length+m) tr=true/\Q .normal s1):WpC P (.region id ops true) s Q:=λw I L a hs=>by
 obtain⟨tr,htr,hck,hq⟩:=DW (s0:=⟨s.env,s.S++List.replicate m .gone,s.nt,s.pin⟩) (trE:=[]) (by simp) trivial rfl h
 rw[FG htr] at hck;obtain⟨ids1,ids2⟩:=hs.ids;have hgetS:∀(i:Nat) (ob:Ob),(s.S++List.replicate m Ob.gone)[i]?=some ob->s.S[i]?=some ob\/ob= .gone:=by
  intro i ob hi;by_cases hlt:i<s.S.length
  ·rw[List.getElem?_append_left hlt] at hi;exact .inl hi
  ·rw[List.getElem?_append_right (by omega),List.getElem?_replicate] at hi
   split at hi
   ·cases hi;exact .inr rfl
   ·cases hi
 have howns:∀(S:List Ob) (L:List Lay),S.length=L.length->aB (S++List.replicate m Ob.gone) (L++List.replicate m (Lay.z none))=aB S L:=by
  intro S;induction S with
  |nil=>
   intro L hl;have:L=[]:=List.eq_nil_of_length_eq_zero (by simpa using hl.symm)
   subst this;simp only[List.nil_append,aB];clear h hck hq htr hgetS;induction m with
   |zero=>rfl
   |succ m ih=>simp only[List.replicate_succ,aB,own,List.nil_append];exact ih
  |cons o S ih=>
   intro L hl;cases L with
   |nil=>simp at hl
   |cons l L=>simp only[List.cons_append,aB];rw[ih L (by simpa using hl)]
 have hw:SR {w with drawn:=w.drawn+1} I L s a:=hs.world (λ_ _=>rfl) (λ_ _=>rfl) (Nat.le_refl _)
 have hLext:∀(i:Nat) (l:Lay),L[i]?=some l->(L++List.replicate m (Lay.z none))[i]?=some l:=λi l hl=>by
  rw[List.getElem?_append_left (List.getElem?_eq_some_iff.1 hl).1];exact hl
 have hs0:SR {w with drawn:=w.drawn+1} I (L++List.replicate m (Lay.z none)) ⟨s.env,s.S++List.replicate m .gone,s.nt,s.pin⟩ a:=by
  refine⟨λt x hx=>ai.mono (λ_ _=>rfl) (λ_ h=>h) hLext _ _ (hw.env t x hx),hw.nt,by simp[hw.len],λi ob l h1 h2=>?_,?_,?_,hw.imm,hw.defers⟩
  ·rcases hgetS i ob h1 with h1'|rfl
   ·have hlt:i<L.length:=by rw[hs.len];exact(List.getElem?_eq_some_iff.1 h1').1
    rw[List.getElem?_append_left hlt] at h2;exact b7.mono (λ_ _=>rfl) (λ_ h=>h) hLext (λ_ _=>rfl) (hw.obs i ob l h1' h2)
   ·trivial
  ·rw[howns _ _ hs.len.symm];exact hw.nodup
  ·rw[howns _ _ hs.len.symm];exact hw.sep
 refine wp_region_any hm ?_;refine vl (N0:=s.S.length) (w0:={w with drawn:=w.drawn+1}) (I0:=I) (L0:=L++List.replicate m (Lay.z none)) hT htr (by simpa using hck) hp (by simp;omega) ids1
  (λi ob hi j hj=>?_) (λi h1 h2=>?_) (λa' w' I' L' hs' ht'=>?_) ops.size (Array.replicate ops.size false) a _ I (L++List.replicate m (Lay.z none)) (by simp) (λi o ho hl=>?_) ?_ ?_ ?_
 ·rcases hgetS i ob hi with hi'|rfl
  ·exact ids2 i ob hi' j hj
  ·simp[gq] at hj
 ·simp at h2;show(s.S++List.replicate m Ob.gone)[i]?=some Ob.gone
  rw[List.getElem?_append_right h1,List.getElem?_replicate,if_pos (by omega)]
 ·refine⟨_,I',L',hq,hs',?_⟩;have hev:=ht'.evo;simp only[howns _ _ hs.len.symm] at hev;refine⟨⟨hev.os,hev.tape,hev.output,hev.size,hev.keep,hev.imm,hev.immNew,hev.own⟩,ht'.pin,λi hi=>?_⟩
  rw[ht'.lay i hi,List.getElem?_append_left (by rw[hs.len];omega)]
 ·simp[lst,Array.getD_eq_getD_getElem?,Array.getElem?_replicate] at hl;split at hl<;>simp at hl
 ·have:∀n,n<=ops.size->unl (Array.replicate ops.size false) n=n:=by
   intro n;induction n with
   |zero=>intro _;rfl
   |succ n ih=>
    intro hn;simp only[unl];rw[ih (by omega),if_neg]
    simp[lst,Array.getD_eq_getD_getElem?,show n<ops.size by omega]
  exact this ops.size (Nat.le_refl _)
 ·have:∀(r:List TrE),(∀u∈r,lst (Array.replicate ops.size false) u.i=false):=by
   intro r u _;simp only[lst,Array.getD_eq_getD_getElem?,Array.getElem?_replicate];split<;>rfl
  have h0:stX (lst (Array.replicate ops.size false)) ⟨s.env,s.S++List.replicate m .gone,s.nt,s.pin⟩ tr=⟨s.env,s.S++List.replicate m .gone,s.nt,s.pin⟩:=by
   have:=gC (s0:=⟨s.env,s.S++List.replicate m .gone,s.nt,s.pin⟩) (l:=tr) (r:=[]) (this tr);simpa[stX] using this
  rw[h0];exact hs0
 ·have:∀(r:List TrE),(∀u∈r,lst (Array.replicate ops.size false) u.i=false):=by
   intro r u _;simp only[lst,Array.getD_eq_getD_getElem?,Array.getElem?_replicate];split<;>rfl
  have h0:stX (lst (Array.replicate ops.size false)) ⟨s.env,s.S++List.replicate m .gone,s.nt,s.pin⟩ tr=⟨s.env,s.S++List.replicate m .gone,s.nt,s.pin⟩:=by
   have:=gC (s0:=⟨s.env,s.S++List.replicate m .gone,s.nt,s.pin⟩) (l:=tr) (r:=[]) (this tr);simpa[stX] using this
  rw[h0];exact bq.refl _ _ _ _
theorem uX {t:TypeId} {p x:FV} {S':List Ob} (h:kP T s t p x=some S') (i:Nat):(S'[i]?).map shp=(s.S[i]?).map shp:=by
 have key:∀(id:Nat) (ob ob':Ob),s.S[id]?=some ob->shp ob'=shp ob->((s.S.set id ob')[i]?).map shp=(s.S[i]?).map shp:=by
  intro id ob ob' h1 h2;by_cases hi:id=i
  ·subst hi;rw[List.getElem?_set_self (List.getElem?_eq_some_iff.1 h1).1,h1];simp[h2]
  ·rw[List.getElem?_set_ne hi]
 unfold kP at h;simp only[Option.bind_eq_some_iff] at h;obtain⟨ti,_,h⟩:=h;split at h
 ·split at h
  ·split at h
   ·rename_i tt cs hS;split at h
    ·cases h;exact key _ _ _ hS rfl
    ·cases h
   ·cases h
  ·split at h
   ·rename_i e k xs hS;split at h
    ·rename_i hkk;subst hkk;simp only[Option.bind_eq_some_iff] at h;obtain⟨y,_,ds,_,h⟩:=h;split at h
     ·split at h
      ·cases h;exact key _ _ _ hS (by simp[shp])
      ·cases h
     ·split at h
      ·split at h
       ·split at h
        ·cases h
        ·cases h;exact key _ _ _ hS (by simp[shp])
       ·cases h
      ·cases h
    ·cases h
   ·cases h
  ·cases h
 ·cases h
theorem de {v:FV} {d:Option Nat} (i:Nat):(((⟨v,[]⟩:Ev).app d s).S[i]?).map shp=(s.S[i]?).map shp:=by simp[Ev.app,cz]
theorem Fr (h0:la o.op=true) (h1:ky T o (msk s (b_ o.op) (dP s o.op))=some s1) (i:Nat):
 (((m8 o.dst s.S.length nid (bF s o.op) s1).app o.dst s).S[i]?).map shp=(s.S[i]?).map shp:=by
 cases ho:o.op<;>rw[ho] at h0<;>simp only[la,Bool.false_eq_true] at h0;rename_i t p x;have hx:∀y∈o.op.operands.toList,evX (msk s (b_ o.op) (dP s o.op)) y=evX s y:=λy hy=>oU hy
 unfold ky at h1;rw[ho] at h1 hx;simp only[Option.bind_eq_some_iff] at h1;obtain⟨vp,hp,vx,_,S',hS,h1⟩:=h1;obtain⟨e1,_,_,_⟩:=dq h1;have e1':s1.S=S':=e1;have hpp:evX s p=some vp:=by rw[<-hx p (by simp[Op.operands])];exact hp
 have hlen:s1.S.length=s.S.length:=by rw[e1',(n6 hS).1];simp[msk,gP]
 unfold m8 Ev.app;rw[List.getElem?_eq_none (show s1.S.length<=s.S.length by omega)]
 simp only[List.nil_append];rw[be,Nat.zero_add,ew];by_cases hw:i∈bF s (Op.store t p x)
 ·rw[if_pos hw];have hsh:=uX hS i;rw[<-e1'] at hsh;simp only[msk,eD,Nat.zero_add] at hsh;have hrd:i∈dP s (Op.store t p x):=by simpa[dP,bF] using hw
  by_cases hlt:i<s.S.length
  ·rw[List.getElem?_eq_getElem (show i<s1.S.length by omega),List.getElem?_eq_getElem hlt] at hsh ⊢
   simp only[Option.map_some,hrd,if_true,Option.some.injEq,Option.getD_some] at hsh ⊢;exact hsh
  ·rw[List.getElem?_eq_none (show s.S.length<=i by omega)];rfl
 ·rw[if_neg hw];cases s.S[i]?<;>rfl
def tx (T:Nat->Option TI) (ops:Array Oper) (fz:Bool) (o:Oper) (s:St) (nid:Nat):Option (Ev×List Nat×List Nat×Bool):=
 (bh ops s o).bind λb=>if b=true then
  (if xk o.op=true then(evA T s o.op).bind λv=>(aY s o.dst v).map λ_=>(⟨v,[]⟩,[],jc s o.op,true)
   else if fz=true then(match o.op with
    | .buildSlice ..=>(ky T o (msk s (b_ o.op) [])).bind λs1=>match s1.S[s.S.length]?,o.dst with
     |some (.arr _ k xs),some d=>(match get s1.env d with
      |some (.sl id n)=>if id=s.S.length/\n=xs.length then some (⟨.d (.list k xs),[]⟩,[],[],true) else none
      |_=>none)
     |_,_=>none
    |_=>none)
   else(ky T o (msk s (b_ o.op) (dP s o.op))).bind λs1=>if sX s.S.length nid o.dst (bF s o.op) s1=true then some (m8 o.dst s.S.length nid (bF s o.op) s1,dP s o.op,[],la o.op) else none)
  else(aY s o.dst (.tup [])).map λ_=>(⟨.tup [],[]⟩,[],[],true)
theorem eU {x:FV} (h:aY s o.dst x=some s1):∀d,o.dst=some d->d<s.nt:=λd hd=>((dq h).2.2.2 d hd).2
theorem xJ {fz:Bool} {e:Ev} {rd sh:List Nat} {st:Bool} (h:tx T ops fz o s nid=some (e,rd,sh,st)):
 ia P T ops o s nid e rd sh/\(st=true->∀i:Nat,((e.app o.dst s).S[i]?).map shp=(s.S[i]?).map shp):=by
 unfold tx at h;simp only[Option.bind_eq_some_iff] at h;obtain⟨b,hb,h⟩:=h;split at h
 ·rename_i hbt;subst hbt;split at h
  ·rename_i hsh;simp only[Option.bind_eq_some_iff,Option.map_eq_some_iff,Prod.mk.injEq] at h;obtain⟨v,hv,s1,hs1,rfl,rfl,rfl,rfl⟩:=h;exact⟨.sh hb hsh hv (eU hs1),λ_=>de⟩
  ·split at h
   ·split at h
    ·rename_i t len parts ho;simp only[Option.bind_eq_some_iff] at h;obtain⟨s1,hs1,h⟩:=h;split at h
     ·rename_i et k xs d hS hd;split at h
      ·rename_i id n hg;split at h
       ·rename_i hc;obtain⟨rfl,rfl⟩:=hc;simp only[Option.some.injEq,Prod.mk.injEq] at h;obtain⟨rfl,rfl,rfl,rfl⟩:=h;exact⟨.lit hb hs1 (by simp[bF,ho]) hS hd hg,λ_=>de⟩
       ·cases h
      ·cases h
     ·cases h
    ·cases h
   ·simp only[Option.bind_eq_some_iff] at h;obtain⟨s1,hs1,h⟩:=h;split at h
    ·rename_i hok;simp only[Option.some.injEq,Prod.mk.injEq] at h;obtain⟨rfl,rfl,rfl,rfl⟩:=h;exact⟨.op hb hs1 hok,λhst=>Fr hst hs1⟩
    ·cases h
 ·rename_i hbf;have hbf':b=false:=by simpa using hbf
  subst hbf';simp only[Option.map_eq_some_iff,Prod.mk.injEq] at h;obtain⟨s1,hs1,rfl,rfl,rfl,rfl⟩:=h;exact⟨.skip hb (eU hs1),λ_=>de⟩
def rY (T:Nat->Option TI) (ops:Array Oper) (fz:List Nat):Nat->List Oper->St->Nat->List TrC->Option (List Oper×St×Nat×List TrC)
 |0,l,s,nid,tr=>some (l,s,nid,tr)
 |_+1,[],s,nid,tr=>some ([],s,nid,tr)
 |n+1,o::l,s,nid,tr=>(tx T ops (decide (tr.length∈fz)) o s nid).bind λp=>
  rY T ops fz n l (p.1.app o.dst s) (if nid∈p.1.mods.map (·.1) then nid+1 else nid) (⟨tr.length,p.1.mods.map (·.1),dV p.1,nid,p.2.1,p.2.2.1,p.2.2.2⟩::tr)
theorem DrO.run {fz:List Nat}:∀(n:Nat) {l l':List Oper} {s s':St} {nid nid':Nat} {tr tr':List TrC},rY T ops fz n l s nid tr=some (l',s',nid',tr')->DrO P T ops l' s' nid' tr' K->DrO P T ops l s nid tr K
 |0,l,l',s,s',nid,nid',tr,tr',h,k=>by simp only[rY,Option.some.injEq,Prod.mk.injEq] at h;obtain⟨rfl,rfl,rfl,rfl⟩:=h;exact k
 |n+1,[],l',s,s',nid,nid',tr,tr',h,k=>by simp only[rY,Option.some.injEq,Prod.mk.injEq] at h;obtain⟨rfl,rfl,rfl,rfl⟩:=h;exact k
 |n+1,o::l,l',s,s',nid,nid',tr,tr',h,k=>by
  simp only[rY,Option.bind_eq_some_iff] at h;obtain⟨⟨e,rd,sh,st⟩,h1,h2⟩:=h;obtain⟨q1,q2⟩:=xJ (P:=P) h1;exact⟨e,rd,sh,st,_,q1,q2,DrO.run n h2 k⟩
theorem DrO.nil (h:K s tr):DrO P T ops [] s nid tr K:=h
theorem DrO.eqS {t ty:TypeId} {x y:Operand} {xs ys:List D} {b:Bool} {l:List Oper} (neg:Bool) (h:bh ops s o=some true) (ho:o.op= .binOp (xO neg) t x y ty) (hx:evX s x=some (.d (.agg xs))) (hy:evX s y=some (.d (.agg ys)))
 (hE:EqT P t xs ys b) (hset:aY s o.dst (.d (.bool (b^^neg)))=some s1) (k:DrO P T ops l s1 nid (⟨tr.length,[],[],nid,[],[],true⟩::tr) K):DrO P T ops (o::l) s nid tr K:=by
 refine⟨_,_,_,true,nid,.eqs h ho hx hy hE (eU hset),λ_=>de,?_⟩
 rw[eg (eU hset)] at hset;cases hset;simpa[Ev.app,cz,dV,bG] using k
theorem DrO.lend {fx:Operand} {args:Array Operand} {ts:Array TypeId} {g:FuncId} {caps xs cargs:List FV} {v:FV} {l:List Oper} (h:bh ops s o=some true) (ho:o.op= .call {callee:= .value fx,args,argTypes:=ts})
 (hf:evX s fx=some (.fn g caps)) (hx:evXs s args.toList=some xs) (hv:aI true s.S (xs++caps)=some cargs) (hc:af P g) (hcall:WpF P g cargs [] λr _=>r=v) (hfl:jC v=true)
 (hset:aY s o.dst v=some s1) (k:DrO P T ops l s1 nid (⟨tr.length,[],bG v,nid,cw s.S (xs++caps),[],true⟩::tr) K):DrO P T ops (o::l) s nid tr K:=by
 refine⟨⟨v,[]⟩,_,_,true,nid,.lend h ho hf hx hv hc hcall hfl (eU hset),λ_=>de,?_⟩
 rw[eg (eU hset)] at hset;cases hset;simpa[Ev.app,cz,dV] using k
theorem DrO.data {fx:Operand} {args:Array Operand} {ts:Array TypeId} {g:FuncId} {caps xs cargs:List FV} {v:FV} {l:List Oper} (h:bh ops s o=some true) (ho:o.op= .call {callee:= .value fx,args,argTypes:=ts})
 (hf:evX s fx=some (.fn g caps)) (hx:evXs s args.toList=some xs) (hv:aI false s.S (xs++caps)=some cargs) (hc:af P g) (hcall:WpF P g cargs [] λr S1=>r=v/\S1=[]) (hid:bG v=[])
 (hset:aY s o.dst v=some s1) (k:DrO P T ops l s1 nid (⟨tr.length,[],[],nid,cw s.S (xs++caps),[],true⟩::tr) K):DrO P T ops (o::l) s nid tr K:=by
 have hren:∀σ:Nat->Nat,ren σ v=v:=λσ=>gJ (by simp[hid])
 have hev:=ia.call (P:=P) (T:=T) (all:=ops) (o:=o) (s:=s) (nid:=nid) (S0:=[]) (r0:=v) [] h ho hf hx hc (by simp) (hV hv) ⟨rfl,λj i c h=>by simp at h⟩ hcall (by simp[lC,hren,hid,aF]) (eU hset)
 rw[hren,hren] at hev;refine⟨_,_,_,true,nid,hev,λ_=>by simpa[fj,aF] using de,?_⟩
 rw[eg (eU hset)] at hset;cases hset;simpa[Ev.app,cz,dV,fj,aF,hid] using k
theorem DrO.call {fx:Operand} {args:Array Operand} {ts:Array TypeId} {g:FuncId} {caps xs cargs:List FV} {cS:List Ob} (perm:List Nat) {r0 v:FV} {S0 S1:List Ob} {mods:List (Nat×Ob)} {ids:List Nat} {l:List Oper} (h:bh ops s o=some true) (ho:o.op= .call {callee:= .value fx,args,argTypes:=ts})
 (hf:evX s fx=some (.fn g caps)) (hx:evXs s args.toList=some xs) (hc:af P g) (hn:perm.Nodup) (ha:eb s.S perm (xs++caps) cargs) (hpass:mZ s.S perm cS)
 (hcall:WpF P g cargs cS λr S1=>r=r0/\S1=S0) (hb:lC s.S.length nid perm r0 S0=true) (hv:ren (mvN s.S.length nid) (ren (σ1 s.S.length perm) r0)=v) (hm:fj s.S.length nid perm S0=mods) (hS:df mods 0 s.S=S1)
 (hset:aY {s with S:=S1} o.dst v=some s1) (hids:dV ⟨v,mods⟩=ids)
 (k:DrO P T ops l s1 (if nid∈mods.map (·.1) then nid+1 else nid) (⟨tr.length,mods.map (·.1),ids,nid,cw s.S (xs++caps)++perm,[],false⟩::tr) K):DrO P T ops (o::l) s nid tr K:=by
 subst hv;subst hm;subst hS;subst hids;have hd:∀d,o.dst=some d->d<s.nt:=λd hd=>((dq hset).2.2.2 d hd).2
 refine⟨_,_,_,false,(if nid∈(fj s.S.length nid perm S0).map (·.1) then nid+1 else nid),.call perm h ho hf hx hc hn ha hpass hcall hb hd,nofun,?_⟩
 rw[eg (s:={s with S:=df (fj s.S.length nid perm S0) 0 s.S}) hd] at hset
 cases hset;exact k
end
theorem dT {p:Prop} [Decidable p]:(decide p=true)=p:=by simp
theorem dF {p:Prop} [Decidable p]:(decide p=false)=¬p:=by simp
@[simp] theorem Aw {α β:Type} (f:α->β) (a:List α):(a.map f).take a.length=a.map f:=List.take_of_length_le (by simp)
@[simp] theorem GY {α:Type} (a:List α):a.take a.length=a:=List.take_of_length_le (Nat.le_refl _)
def retD (T:Nat->Option TI) (res:List ResultVar) (Q:FV->Prop) (e:Exit) (s:St):Prop:=
 (e= .normal\/e= .ret)/\∃xs ys,ft T s res=some xs/\aI true s.S xs=some ys/\Q (fK ys)
def ah (P:Program) (f:FuncId) (args:List FV) (v:FV):Prop:=WpF P f args [] λr S=>r=v/\S=[]
section
variable {P:Program} {T:Nat->Option TI} {w w':World} {I I':Nat->Prop} {L L':List Lay} {s s' s1:St} {a:Act} {all:Array Oper} {o:Oper} {rest:List Oper} {Q:Exit->St->Prop} {c:Code}
theorem uc {S:List Ob} {xs ys:List FV} (h:aI true S xs=some ys):aK true S (fK xs)=some (fK ys):=by
 cases xs with
 |nil=>simp[aI] at h;subst h;simp[fK,aK,aI]
 |cons x xs=>
  cases xs with
  |nil=>
   simp only[aI,Option.bind_eq_some_iff,Option.map_eq_some_iff] at h;obtain⟨y,hy,zs,hz,rfl⟩:=h;cases hz;simpa[fK] using hy
  |cons x2 xs=>
   have h':=h;simp only[aI,Option.bind_eq_some_iff,Option.map_eq_some_iff] at h';obtain⟨y,hy,zs,⟨y2,hy2,zs2,hz2,rfl⟩,rfl⟩:=h';simp only[fK,aK];rw[h];rfl
theorem WpF.enterD (hT:aP P T) {f:FuncId} {fn:Func} {c:Code} {args:List FV} {Q:FV->Prop} (hf:P.funcs[f]?=some fn) (hb:fn.body=some c) (hn:args.length<=fn.ntmps)
 (h:WpC P c ⟨dK 0 args,[],fn.ntmps,0⟩ (retD T fn.results.toList Q)):WpF P f args [] (λr S=>Q r/\S=[]):=λw I L vs ha hO=>by
 have hL:L=[]:=List.eq_nil_of_length_eq_zero hO.len;subst hL;have hvl:=ha.length;have hs:SR w I [] ⟨dK 0 args,[],fn.ntmps,0⟩ {tmps:=vs.toArray++Array.replicate (fn.ntmps-vs.toArray.size) undef,defers:=[]}:=by
  refine⟨λt x hx=>?_,by simp;omega,hO.len,hO.obs,hO.nodup,hO.sep,hO.imm,rfl⟩
  obtain⟨i,rfl,hi⟩:=gX hx;obtain⟨v,hv,hz⟩:=ha.get i x hi;have hlt:i<vs.length:=(List.getElem?_eq_some_iff.1 hv).1;rw[Nat.zero_add,Array.getD_eq_getD_getElem?,Array.getElem?_append_left (by simpa using hlt)]
  simpa[hv] using hz
 refine calls_of_wp hf hb (wp_mono (h w I [] _ hs) λe a' w' p=>?_)
 obtain⟨s',I',L',⟨he,xs,ys,hxs,hys,hq⟩,hs',⟨st,sp,sl⟩⟩:=p;obtain⟨v,hv,hz⟩:=kI hT hs' hxs;have hview:ai w' (gd I' s'.S L') [] (fK ys) v:=lI hs' [] hz (uc hys);have hfin:∃r v_1 S' I' L',Ending.returned v= .returned v_1/\(Q r/\S'=[])/\ai w' I' L' r v_1/\OR w' I' L' S'/\Evo w I (aB [] []) w' I' (aB S' L')/\([]:List Ob).length<=S'.length/\∀i:Nat,i<([]:List Ob).length->L'[i]?=([]:List Lay)[i]?:=by
  refine⟨fK ys,v,[],gd I' s'.S L',[],rfl,⟨hq,rfl⟩,hview,⟨rfl,λi o l h=>by simp at h,by simp[aB],λb hb=>by simp[aB] at hb,hs'.imm.more (λb hb=> .inl hb) λb hb=>?_⟩,⟨st.os,st.tape,st.output,st.size,st.keep,λb hb=> .inl (st.imm b hb),λb hb=>?_,λb hb=>by simp[aB] at hb⟩,Nat.le_refl _,λi hi=>by simp at hi⟩
  ·rcases hb with hb|hb
   ·exact hs'.imm b hb
   ·exact(hs'.sep b hb).2
  ·rcases hb with hb|hb
   ·exact st.immNew b hb
   ·rcases st.own b hb with h'|h'
    ·exact .inr (.inl h')
    ·exact .inr (.inr h')
 rcases he with rfl|rfl
 ·exact⟨hs'.defers,v,hv,hfin⟩
 ·exact⟨hs'.defers,v,hv,hfin⟩
def leR:FV->FV->Prop
 | .tup xs,.tup ys=>leA xs ys
 |x,y=>FV.le x y
theorem Fx {x y:FV} {v:Value} (hl:leR x y) (h:ai w I L x v):ai w I L y v:=by
 unfold leR at hl;split at hl
 ·simp only[ai] at h ⊢;obtain⟨vs,h1,h2⟩:=h;exact⟨vs,h1,rP hl h2⟩
 ·exact DT hl h
theorem ah.enter (hT:aP P T) {f:FuncId} {fn:Func} {c:Code} {args:List FV} {v:FV} (hf:P.funcs[f]?=some fn) (hb:fn.body=some c) (hn:args.length<=fn.ntmps)
 (h:WpC P c ⟨dK 0 args,[],fn.ntmps,0⟩ (retD T fn.results.toList (leR · v))):ah P f args v:=λw I L vs ha hO=>
 (WpF.enterD hT hf hb hn h w I L vs ha hO).mono λe w' ⟨r,v',S',I',L',e1,⟨e2,e3⟩,e4,e5⟩=>⟨v,v',S',I',L',e1,⟨rfl,e3⟩,Fx e2 e4,e5⟩
theorem dB {res:List ResultVar} {Q:FV->Prop} {xs ys:List FV} (h1:ft T s res=some xs) (h2:aI true s.S xs=some ys) (hq:Q (fK ys)):Pay.retD T res Q .ret s:=⟨.inr rfl,xs,ys,h1,h2,hq⟩
theorem WpO.data {fx:Operand} {args:Array Operand} {ts:Array TypeId} {g:FuncId} {caps xs cargs:List FV} {v:FV} (h:bh all s o=some true) (ho:o.op= .call {callee:= .value fx,args,argTypes:=ts})
 (hf:evX s fx=some (.fn g caps)) (hx:evXs s args.toList=some xs) (hv:aI false s.S (xs++caps)=some cargs) (hc:af P g) (hp:s.pin<=s.S.length) (hcall:ah P g cargs v) (hid:bG v=[])
 (hset:aY s o.dst v=some s1) (k:WpO P all rest s1 Q):WpO P all (o::rest) s Q:=
 WpO.callD h ho hf hx hv hc hp hcall λr S1 hr=>by
  obtain⟨rfl,rfl⟩:=hr;refine⟨s1,?_,k⟩;rw[gJ (by simp[hid])]
  simpa[aF] using hset
theorem WpO.lend {fx:Operand} {args:Array Operand} {ts:Array TypeId} {g:FuncId} {caps xs cargs:List FV} {v:FV} (h:bh all s o=some true) (ho:o.op= .call {callee:= .value fx,args,argTypes:=ts})
 (hf:evX s fx=some (.fn g caps)) (hx:evXs s args.toList=some xs) (hv:aI true s.S (xs++caps)=some cargs) (hc:af P g) (hcall:ah P g cargs v) (hfl:jC v=true)
 (hset:aY s o.dst v=some s1) (k:WpO P all rest s1 Q):WpO P all (o::rest) s Q:=
 WpO.callL h ho hf hx hv hc hcall λr S1 hr=>by
  obtain⟨rfl,rfl⟩:=hr;exact⟨hfl,s1,hset,k⟩
theorem WpC.condR {r:Option Bool} {b:Bool} {x:Operand} {c1 c2:Code} (hc:Pay.evB s x=r) (hr:r=some b) (ht:b=true->WpC P c1 s Q) (hf:b=false->WpC P c2 s Q):WpC P (.cond x c1 c2) s Q:=WpC.condP b (hc.trans hr) ht hf
theorem WpO.splitB {r:Option FV} {b:Bool} (d:Nat) (hb0:get s.env d=r) (hr:r=some (.d (.bool b))) (ht:b=true->WpO P all rest {s with env:=(d,.d (.bool true))::s.env} Q) (hf:b=false->WpO P all rest {s with env:=(d,.d (.bool false))::s.env} Q):WpO P all rest s Q:=by
 have hb:=hb0.trans hr;have key:∀c,b=c->WpO P all rest {s with env:=(d,.d (.bool c))::s.env} Q->WpO P all rest s Q:=λc hc h=>by
  subst hc;refine WpO.gh (Gh.slot (x:= .d (.bool b)) hb λ_ _ _ _ _ _ hv=>hv) h
 cases b
 ·exact key false rfl (hf rfl)
 ·exact key true rfl (ht rfl)
theorem qA {t t0:Nat} (ht:t≠t0):∀ {env:List (Nat×FV)} {n:Nat} {y:FV},(env.take n).all (λp=>p.1==t0||(get (env.drop n) p.1).isNone)=true->get (env.drop n) t=some y->get env t=some y
 |env,0,y,_,h=>by simpa using h
 |[],n+1,y,_,h=>by simpa using h
 |(k,x)::r,n+1,y,hn,h=>by
  simp only[List.take_succ_cons,List.drop_succ_cons,List.all_cons,Bool.and_eq_true] at hn h;simp only[get];by_cases hk:k=t
  ·subst hk;rw[h] at hn;simp[ht] at hn
  ·rw[if_neg hk];exact qA ht hn.2 h
theorem Gh.only {env env0:List (Nat×FV)} {S:List Ob} {nt pin:Nat} (t n:Nat) {x:FV} (hx:get env t=some x) (hd:env.drop n=env0) (hn:(env.take n).all (λp=>p.1==t||(get env0 p.1).isNone)=true):Gh ⟨env,S,nt,pin⟩ ⟨(t,x)::env0,S,nt,pin⟩:=by
 subst hd;refine Gh.forget (s:=⟨env,S,nt,pin⟩) λt' y hy=>?_
 simp only[get] at hy;by_cases ht:t=t'
 ·rw[if_pos ht] at hy;cases hy;subst ht;exact hx
 ·rw[if_neg ht] at hy;exact qA (Ne.symm ht) hn hy
theorem WpC.val (t:Nat) (x:FV) (h:WpC P c s (λe s1=>e= .normal/\Gh s1 {s with env:=(t,x)::s.env})) (k:Q .normal {s with env:=(t,x)::s.env}):WpC P c s Q:=WpC.join _ h k
theorem WpC.loopK {α:Type} (ks cs:List Nat) (n:Nat) (a0:α) (ch:Nat->α->List (Nat×FV)) (SS:Nat->α->List Ob) (inv:Nat->α->Prop) {env0:List (Nat×FV)} (he:gj s.env ks=some env0)
 (h0:Gh s ⟨ch 0 a0++env0,SS 0 a0,s.nt,s.pin⟩) (hi:inv 0 a0)
 (hr:∀k a,k<=n->inv k a->WpC P c ⟨ch k a++env0,SS k a,s.nt,s.pin⟩ (λe s'=>match e with| .normal=>k<n/\∃a',inv (k+1) a'/\Gh s' ⟨ch (k+1) a'++env0,SS (k+1) a',s.nt,s.pin⟩|e=>Q e s')):WpC P (.loop c) s Q:=by
 refine WpC.countP n (λk s'=>∃a,inv k a/\s'=⟨ch k a++env0,SS k a,s.nt,s.pin⟩) ⟨_,h0,a0,hi,rfl⟩ λk s' hk ⟨a,ha,hs⟩=>?_
 subst hs;refine WpC.mono (hr k a hk ha) λe s1 h=>?_
 cases e with
 |normal=>obtain⟨h1,a',h2,h3⟩:=h;exact⟨h1,_,h3,a',h2,rfl⟩
 |_=>exact h
theorem WpC.loopM {α:Type} (ks cs:List Nat) (m:α->Nat) (a0:α) (ch:α->List (Nat×FV)) (SS:α->List Ob) (inv:α->Prop) {env0:List (Nat×FV)} (he:gj s.env ks=some env0)
 (h0:Gh s ⟨ch a0++env0,SS a0,s.nt,s.pin⟩) (hi:inv a0)
 (hr:∀a,inv a->WpC P c ⟨ch a++env0,SS a,s.nt,s.pin⟩ (λe s'=>match e with| .normal=>∃a',inv a'/\m a'<m a/\Gh s' ⟨ch a'++env0,SS a',s.nt,s.pin⟩|e=>Q e s')):WpC P (.loop c) s Q:=by
 refine WpC.while (λn s'=>∃a,inv a/\m a=n/\s'=⟨ch a++env0,SS a,s.nt,s.pin⟩) (m a0) ⟨_,h0,a0,hi,rfl,rfl⟩ λn s' ⟨a,ha,hm,hs⟩=>?_
 subst hs;subst hm;refine WpC.mono (hr a ha) λe s1 h=>?_
 cases e with
 |normal=>obtain⟨a',h1,h2,h3⟩:=h;exact⟨_,h2,_,h3,a',h1,rfl,rfl⟩
 |_=>exact h
theorem m6 {t e:TypeId} (ht:P.underlying t=some (.slice e)) (b:Option Addr) (n c:Nat):(binOp .eql t (.slice b n c) (.slice none 0 0)).run P w= .ok (.bool b.isNone) w:=by
 refine ey rfl λd=>?_
 cases b<;>simp[Op.equalIn,aS ht]
theorem ah.le {f:FuncId} {xs ys:List FV} {v:FV} (h:ah P f ys v) (hl:leA xs ys):ah P f xs v:=WpF.le h hl
def qB (S:List Ob) (id:Nat):List Ob:=match S[id]? with
 |some (.arr _ k xs)=>S.set id (.frz k xs)
 |_=>S
theorem Gh.frz:∀(ids:List Nat) {s:St},Gh s {s with S:=ids.foldl qB s.S}
 |[],s=>Gh.refl _
 |id::r,s=>by
  have h1:Gh s {s with S:=qB s.S id}:=by
   unfold qB;split
   ·rename_i e k xs h;exact Gh.freeze h
   ·exact Gh.refl _
  exact h1.trans (Gh.frz r (s:={s with S:=qB s.S id}))
end
theorem DrO.splitB {P:Program} {T:Nat->Option TI} {ops:Array Oper} {l:List Oper} {s:St} {nid:Nat} {tr:List TrC} {K:St->List TrC->Prop} {r:Option FV} {b:Bool} (d:Nat) (hb0:get s.env d=r) (hr:r=some (.d (.bool b)))
 (ht:b=true->DrO P T ops l s nid tr K) (hf:b=false->DrO P T ops l s nid tr K):DrO P T ops l s nid tr K:=by
 cases b
 ·exact hf rfl
 ·exact ht rfl
section
variable {P:Program} {s:St} {Q:Exit->St->Prop}
theorem WpC.scopeM {α:Type} {c body:Code} (ks:List Nat) (a0:α) (m:α->Nat) (ch:α->List (Nat×FV)) (SS:α->List Ob) (inv:α->Prop) (l:Nat) {env0:List (Nat×FV)} (hf:findLabel c l=some (.seq .skip body)) (he:gj s.env ks=some env0)
 (first:∀K:Exit->St->Prop,(∀a,inv a->∀ {s1:St},Gh s1 ⟨ch a++env0,SS a,s.nt,s.pin⟩->WpC P body s1 K)->WpC P c s K)
 (pass:∀a,inv a->WpC P body ⟨ch a++env0,SS a,s.nt,s.pin⟩ (λe s'=>match e with| .goto l'=>l'=l/\∃a',inv a'/\m a'<m a/\Gh s' ⟨ch a'++env0,SS a',s.nt,s.pin⟩|e=>Q e s')):WpC P (.scope c) s Q:=by
 have pass':∀(n:Nat) (s1:St),(∃a,inv a/\m a=n/\Gh s1 ⟨ch a++env0,SS a,s.nt,s.pin⟩)->
  WpC P body s1 (λe s'=>match e with| .goto l'=>l'=l/\∃n',n'<n/\∃a,inv a/\m a=n'/\Gh s' ⟨ch a++env0,SS a,s.nt,s.pin⟩|e=>Q e s'):=by
  rintro n s1 ⟨a,ha,rfl,hg⟩;refine WpC.gh hg (WpC.mono (pass a ha) λe s' h=>?_)
  cases e with
  |goto l'=>obtain⟨h1,a',h2,h3,h4⟩:=h;exact⟨h1,_,h3,a',h2,rfl,h4⟩
  |_=>exact h
 intro w I L a hs b k cs;have hg:gotoIn l (.inScope c::k)=some (.code (.seq .skip body):: .inScope c::k):=by simp[gotoIn,hf]
 have key:∀n s1 w1 I1 L1 a1,(∃x,inv x/\m x=n/\Gh s1 ⟨ch x++env0,SS x,s.nt,s.pin⟩)->SR w1 I1 L1 s1 a1->
  ∃e a' w',mY w1 I1 L1 s1 Q e a' w'/\Arrives P (lone (b.at a1 (.code (.seq .skip body):: .inScope c::k)) cs w1) b k cs e a' w':=by
  intro n;induction n using Nat.strongRecOn with
  |_ n ih=>
   intro s1 w1 I1 L1 a1 hj hs1;obtain⟨e,a2,w2,⟨s2,I2,L2,q,r,t⟩,harr⟩:=WpC.seq (x:= .skip) (WpC.skip (show aj P body _ .normal s1 from pass' n s1 hj)) w1 I1 L1 a1 hs1 b (.inScope c::k) cs
   cases e with
   |normal=>exact⟨.normal,a2,w2,⟨s2,I2,L2,q,r,t⟩,Steps.trans harr (.one step_inScope)⟩
   |exit id=>exact⟨.exit id,a2,w2,⟨s2,I2,L2,q,r,t⟩,λk' hk=>harr k' (by simp[exitTo,hk])⟩
   |goto l'=>
    obtain⟨rfl,n',hn',hj'⟩:=q;obtain⟨e3,a3,w3,p3,harr3⟩:=ih n' hn' s2 w2 I2 L2 a2 hj' r;exact⟨e3,a3,w3,p3.from t,.of_steps (harr _ hg) harr3⟩
   |ret=>exact⟨_,a2,w2,⟨s2,I2,L2,q,r,t⟩,harr⟩
   |panic ch=>exact⟨_,a2,w2,⟨s2,I2,L2,q,r,t⟩,harr⟩
   |outgrown=>exact⟨_,a2,w2,⟨s2,I2,L2,q,r,t⟩,harr⟩
 obtain⟨e,a1,w1,⟨s1,I1,L1,q,r,t⟩,harr⟩:=first (λe s'=>match e with| .goto l'=>l'=l/\∃n',∃a,inv a/\m a=n'/\Gh s' ⟨ch a++env0,SS a,s.nt,s.pin⟩|e=>Q e s')
  (λx hx s1 hgh=>WpC.mono (pass' (m x) s1 ⟨x,hx,rfl,hgh⟩) λe s' h=>by
   cases e with
   |goto l'=>obtain⟨h1,n',_,h2⟩:=h;exact⟨h1,n',h2⟩
   |_=>exact h) w I L a hs b (.inScope c::k) cs
 cases e with
 |normal=>exact⟨.normal,a1,w1,⟨s1,I1,L1,q,r,t⟩,.head step_scope (Steps.trans harr (.one step_inScope))⟩
 |exit id=>exact⟨.exit id,a1,w1,⟨s1,I1,L1,q,r,t⟩,λk' hk=> .head step_scope (harr k' (by simp[exitTo,hk]))⟩
 |goto l'=>
  obtain⟨rfl,n',hj'⟩:=q;obtain⟨e2,a2,w2,p2,harr2⟩:=key n' s1 w1 I1 L1 a1 hj' r;exact⟨e2,a2,w2,p2.from t,.of_steps (.head step_scope (harr _ hg)) harr2⟩
 |ret=>exact⟨_,a1,w1,⟨s1,I1,L1,q,r,t⟩,.of_steps (.one step_scope) harr⟩
 |panic ch=>exact⟨_,a1,w1,⟨s1,I1,L1,q,r,t⟩,.of_steps (.one step_scope) harr⟩
 |outgrown=>exact⟨_,a1,w1,⟨s1,I1,L1,q,r,t⟩,.of_steps (.one step_scope) harr⟩
end
end Go.Proofs.YtlhmejigmokbhaaGreatDoor.Pay
