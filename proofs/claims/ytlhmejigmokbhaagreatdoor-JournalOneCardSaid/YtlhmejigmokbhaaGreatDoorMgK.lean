/- The texts PayU, PayV, one behind the other. No statement of the seed is proved here. -/
import Derived.Test.YtlhmejigmokbhaaGreatDoorMgJ
namespace Go.Proofs.YtlhmejigmokbhaaGreatDoor.Pay
open Go Go.RowKit
set_option linter.unusedSimpArgs false
set_option linter.unusedVariables false
def b_ (o:Op):List Nat:=fR o.operands.toList
def kc (s:St):List Operand->List Nat
 |[]=>[]
 |x::r=>bp (evX s x)++kc s r
def dP (s:St):Op->List Nat
 | .store _ p _=>bp (evX s p)
 | .load _ p=>bp (evX s p)
 | .convert _ _ x=>bp (evX s x)
 | .lookup _ x _ _=>bp (evX s x)
 | .mapUpdate _ m _ _=>bp (evX s m)
 | .call {callee:= .builtin _,args,..}=>kc s args.toList
 |_=>[]
def jc (s:St):Op->List Nat
 | .indexAddr _ x _=>bp (evX s x)
 | .slice _ x _ _ _=>bp (evX s x)
 |_=>[]
mutual
def fq (S:List Ob):FV->List Nat
 | .ref id _=>id::(match S[id]? with|some (.cells _ cs)=>ed cs|_=>[])
 | .sl id _=>[id]
 | .er id _ _ _=>[id]
 | .mp id=>[id]
 | .so id _ _ _=>[id]
 | .sc id _ _=>[id]
 | .agg cs=>cw S cs
 | .fn _ cs=>cw S cs
 | .tup cs=>cw S cs
 |_=>[]
def cw (S:List Ob):List FV->List Nat
 |[]=>[]
 |x::r=>fq S x++cw S r
end
def xk:Op->Bool
 | .indexAddr _ _ _=>true
 | .slice _ _ _ _ _=>true
 |_=>false
def shp:Ob->Ob
 | .arr e k xs=> .arr e k (List.replicate xs.length .nil)
 | .cells _ _=> .gone
 |o=>o
def sX (N nid:Nat) (d:Option Nat) (wr:List Nat) (s1:St):Bool:=
 let v:=xv d s1.env
 match s1.S[N]? with
 |none=>(bG v).all λj=>decide (j<N)
 |some ob=>(gq ob).all (λj=>decide (j<N/\j≠nid))&&(bG v).all (λj=>decide (j<=N/\j≠nid))&&wr.all (λi=>decide (i≠nid)&&(gq ((s1.S[i]?).getD .gone)).all λj=>decide (j<N/\j≠nid))
def τ1 (N nid:Nat) (perm:List Nat) (j:Nat):Nat:=mvN N nid (σ1 N perm j)
def fj (N nid:Nat) (perm:List Nat) (S0:List Ob):List (Nat×Ob):=
 (match S0.drop perm.length with|ob::_=>[(nid,cC (τ1 N nid perm) ob)]|[]=>[])++perm.zip (aF (τ1 N nid perm) (S0.take perm.length))
def lC (N nid:Nat) (perm:List Nat) (r0:FV) (S0:List Ob):Bool:=
 decide (perm.length<=S0.length)&&decide (S0.length<=perm.length+1)&&perm.all (λi=>decide (i<N/\i≠nid))&&(bG (ren (σ1 N perm) r0)).all (λj=>decide (j<(if S0.length=perm.length then N else N+1)/\j≠nid))&&
  (aF (σ1 N perm) S0).all λob=>(gq ob).all λj=>decide (j<(if S0.length=perm.length then N else N+1)/\j≠nid)
inductive ia (P:Program) (T:Nat->Option TI) (all:Array Oper) (o:Oper) (s:St) (nid:Nat):Ev->List Nat->List Nat->Prop where
 |skip (h:bh all s o=some false) (hd:∀d,o.dst=some d->d<s.nt):ia P T all o s nid ⟨.tup [],[]⟩ [] []
 |op {s1:St} (h:bh all s o=some true) (h1:ky T o (msk s (b_ o.op) (dP s o.op))=some s1) (h2:sX s.S.length nid o.dst (bF s o.op) s1=true):
  ia P T all o s nid (m8 o.dst s.S.length nid (bF s o.op) s1) (dP s o.op) []
 |lit {s1:St} {et k d:Nat} {xs:List D} (h:bh all s o=some true) (h1:ky T o (msk s (b_ o.op) [])=some s1) (h0:bF s o.op=[]) (h2:s1.S[s.S.length]?=some (.arr et k xs)) (h3:o.dst=some d)
  (h4:get s1.env d=some (.sl s.S.length xs.length)):ia P T all o s nid ⟨.d (.list k xs),[]⟩ [] []
 |sh {v:FV} (h:bh all s o=some true) (h0:xk o.op=true) (h1:evA T s o.op=some v) (hd:∀d,o.dst=some d->d<s.nt):ia P T all o s nid ⟨v,[]⟩ [] (jc s o.op)
 |eqs {t ty:TypeId} {x y:Operand} {xs ys:List D} {b neg:Bool} (h:bh all s o=some true) (ho:o.op= .binOp (xO neg) t x y ty) (hx:evX s x=some (.d (.agg xs))) (hy:evX s y=some (.d (.agg ys))) (hE:EqT P t xs ys b)
  (hd:∀d,o.dst=some d->d<s.nt):ia P T all o s nid ⟨.d (.bool (b^^neg)),[]⟩ [] []
 |lend {fx:Operand} {args:Array Operand} {ts:Array TypeId} {g:FuncId} {caps xs cargs:List FV} {v:FV} (h:bh all s o=some true) (ho:o.op= .call {callee:= .value fx,args,argTypes:=ts})
  (hf:evX s fx=some (.fn g caps)) (hx:evXs s args.toList=some xs) (hv:aI true s.S (xs++caps)=some cargs) (hc:af P g) (hcall:WpF P g cargs [] λr _=>r=v) (hfl:jC v=true)
  (hd:∀d,o.dst=some d->d<s.nt):ia P T all o s nid ⟨v,[]⟩ (cw s.S (xs++caps)) []
 |call {fx:Operand} {args:Array Operand} {ts:Array TypeId} {g:FuncId} {caps xs cargs:List FV} {cS:List Ob} (perm:List Nat) {r0:FV} {S0:List Ob} (h:bh all s o=some true) (ho:o.op= .call {callee:= .value fx,args,argTypes:=ts})
  (hf:evX s fx=some (.fn g caps)) (hx:evXs s args.toList=some xs) (hc:af P g) (hn:perm.Nodup) (ha:eb s.S perm (xs++caps) cargs) (hpass:mZ s.S perm cS)
  (hcall:WpF P g cargs cS λr S1=>r=r0/\S1=S0) (hb:lC s.S.length nid perm r0 S0=true) (hd:∀d,o.dst=some d->d<s.nt):
  ia P T all o s nid ⟨ren (mvN s.S.length nid) (ren (σ1 s.S.length perm) r0),fj s.S.length nid perm S0⟩ (cw s.S (xs++caps)++perm) []
section
variable {P:Program} {T:Nat->Option TI} {w w':World} {I I':Nat->Prop} {L L':List Lay} {s s' s1 s2:St} {a:Act} {all ops:Array Oper} {o:Oper} {rest:List Oper} {Q:Exit->St->Prop} {c:Code} {md:Region.Mode}
theorem iP:∀ {xs:List Operand} {t:Nat},.tmp t∈xs->t∈fR xs
 |x::r,t,h=>by
  rcases List.mem_cons.1 h with h|h
  ·subst h;simp[fR]
  ·have ih:=iP h;cases x<;>simp[fR,ih]
theorem uW {xs:List Operand} (he:∀t∈fR xs,get s.env t=get s2.env t) {x:Operand} (hx:x∈xs):evX s x=evX s2 x:=by
 cases x with
 |tmp t=>exact he t (iP hx)
 |_=>rfl
theorem mz {xs:List Operand} (he:∀x∈xs,evX s x=evX s2 x):evXs s xs=evXs s2 xs:=by
 induction xs with
 |nil=>rfl
 |cons x r ih=>simp only[evXs];rw[he x (by simp),ih λy hy=>he y (by simp[hy])]
theorem oJ {xs:List Operand} (he:∀x∈xs,evX s x=evX s2 x):kc s xs=kc s2 xs:=by
 induction xs with
 |nil=>rfl
 |cons x r ih=>simp only[kc];rw[he x (by simp),ih λy hy=>he y (by simp[hy])]
theorem pD (he:∀t∈jv all o,get s.env t=get s2.env t):bh all s o=bh all s2 o:=by
 unfold bh;unfold jv at he;cases hg:o.guard with
 |none=>rfl
 |some p=>
  obtain⟨j,want⟩:=p;simp only[hg] at he ⊢;cases hd:(all[j]?).bind (·.dst) with
  |none=>rfl
  |some d=>simp only;rw[he d (by simp[hd])]
theorem pW (he:∀x∈o.op.operands.toList,evX s x=evX s2 x):dP s o.op=dP s2 o.op:=by
 unfold dP;split
 ·rename_i h;rw[he _ (by simp[h,Op.operands])]
 ·rename_i h;rw[he _ (by simp[h,Op.operands])]
 ·rename_i h;rw[he _ (by simp[h,Op.operands])]
 ·rename_i h;rw[he _ (by simp[h,Op.operands])]
 ·rename_i h;rw[he _ (by simp[h,Op.operands])]
 ·rename_i h;exact oJ λx hx=>he x (by simp[h,Op.operands,Call.operands];simpa using hx)
 ·rfl
theorem eR (he:∀x∈o.op.operands.toList,evX s x=evX s2 x):bF s o.op=bF s2 o.op:=by
 unfold bF;split
 ·rename_i h;rw[he _ (by simp[h,Op.operands])]
 ·rename_i h;rw[he _ (by simp[h,Op.operands])]
 ·rename_i args ts h;split
  ·rename_i x r hx;rw[he x (by simp[h,Op.operands,Call.operands];rw[<-Array.mem_toList_iff,hx];simp)]
  ·rfl
 ·rename_i args ts h;split
  ·rename_i x r hx;rw[he x (by simp[h,Op.operands,Call.operands];rw[<-Array.mem_toList_iff,hx];simp)]
  ·rfl
 ·rfl
theorem k9 {o1 o2:Option Ob} (h:o1.map shp=o2.map shp) {e k:Nat} {xs:List D} (h1:o1=some (.arr e k xs)):∃ys,o2=some (.arr e k ys)/\ys.length=xs.length:=by
 subst h1;cases o2 with
 |none=>simp at h
 |some ob=>
  simp only[Option.map_some,Option.some.injEq] at h;cases ob<;>simp[shp] at h;obtain⟨rfl,rfl,h⟩:=h;exact⟨_,rfl,h.symm⟩
theorem AM {o1 o2:Option Ob} (h:o1.map shp=o2.map shp) {k:Nat} {xs:List D} (h1:o1=some (.frz k xs)):o2=some (.frz k xs):=by
 subst h1;cases o2 with
 |none=>simp at h
 |some ob=>
  simp only[Option.map_some,Option.some.injEq] at h;cases ob<;>simp[shp] at h;obtain⟨rfl,rfl⟩:=h;rfl
theorem wg {v:FV} (h0:xk o.op=true) (he:∀x∈o.op.operands.toList,evX s x=evX s2 x) (hs:∀i∈jc s o.op,(s.S[i]?).map shp=(s2.S[i]?).map shp) (h:evA T s o.op=some v):evA T s2 o.op=some v:=by
 cases ho:o.op<;>rw[ho] at h0 h hs he<;>simp only[xk,reduceCtorEq] at h0;case indexAddr t x i=>
  simp only[evA,Option.bind_eq_some_iff] at h ⊢;obtain⟨vx,hx,vi,hi,h⟩:=h;refine⟨vx,by rw[<-he x (by simp[Op.operands])];exact hx,vi,by rw[<-he i (by simp[Op.operands])];exact hi,?_⟩
  simp only[jc,hx] at hs;unfold xH at h ⊢;split at h
  ·simp only[Option.bind_eq_some_iff] at h ⊢;obtain⟨ti,hti,h⟩:=h;refine⟨ti,hti,?_⟩;split at h
   ·simp only[Option.bind_eq_some_iff] at h ⊢;obtain⟨ei,hei,h⟩:=h;refine⟨ei,hei,?_⟩;split at h
    ·rename_i id n;have hq:=hs id (by simp[bp])
     split at h
     ·rename_i e k xs hS;obtain⟨ys,hy,hl⟩:=k9 hq hS;simp only[hy,hl];exact h
     ·rename_i k xs hS;simp only[AM hq hS];exact h
     ·cases h
    ·exact h
    ·rename_i id k' off n;have hq:=hs id (by simp[bp])
     split at h
     ·rename_i e k xs hS;obtain⟨ys,hy,hl⟩:=k9 hq hS;simp only[hy,hl];exact h
     ·cases h
    ·cases h
   ·exact h
   ·cases h
  ·cases h
 case slice t x lo hi mx=>
  cases mx with
  |some m=>simp[evA] at h
  |none=>
   simp only[evA,Option.bind_eq_some_iff] at h ⊢;obtain⟨vx,hx,l,hl,hh,hhi,h⟩:=h;refine⟨vx,by rw[<-he x (by simp[Op.operands])];exact hx,l,?_,hh,?_,?_⟩
   ·cases lo with
    |none=>exact hl
    |some y=>simp only[evOpt] at hl ⊢;rw[<-he y (by simp[Op.operands])];exact hl
   ·cases hi with
    |none=>exact hhi
    |some y=>simp only[evOpt] at hhi ⊢;rw[<-he y (by simp[Op.operands])];exact hhi
   ·simp only[jc,hx] at hs;unfold xD at h ⊢;simp only[Option.bind_eq_some_iff] at h ⊢;obtain⟨ti,hti,h⟩:=h;refine⟨ti,hti,?_⟩;split at h
    ·exact h
    ·exact h
    ·rename_i e id n hk;have hq:=hs id (by simp[bp])
     simp only[Option.bind_eq_some_iff] at h ⊢;obtain⟨ei,hei,m,hm,n',hn',h⟩:=h;refine⟨ei,hei,m,hm,n',hn',?_⟩;split at h
     ·rename_i e' k xs hS;obtain⟨ys,hy,hl'⟩:=k9 hq hS;simp only[hy,hl'];exact h
     ·cases h
    ·rename_i e id n c hk;have hq:=hs id (by simp[bp])
     simp only[Option.bind_eq_some_iff] at h ⊢;obtain⟨ei,hei,m,hm,n',hn',h⟩:=h;refine⟨ei,hei,m,hm,n',hn',?_⟩;split at h
     ·rename_i e' k xs hS;obtain⟨ys,hy,hl'⟩:=k9 hq hS;simp only[hy];exact h
     ·cases h
    ·cases h
theorem qS {S S2:List Ob} {x:FV} (h:∀i∈bG x,S[i]?=S2[i]?):mF S x=mF S2 x:=by
 cases x<;>simp only[mF];rename_i id n;rw[h id (by simp[bG])]
theorem jI {S S2:List Ob}:∀ {xs:List FV},(∀i∈ed xs,S[i]?=S2[i]?)->f6 S xs=f6 S2 xs
 |[],_=>rfl
 |x::r,h=>by simp only[f6];rw[qS (x:=x) λi hi=>h i (by simp[ed,hi]),jI (xs:=r) λi hi=>h i (by simp[ed,hi])]
mutual
theorem kC {b:Bool} {S S2:List Ob}:∀ {x:FV},(∀i∈fq S x,S[i]?=S2[i]?)->aK b S x=aK b S2 x
 | .d x,_=>rfl
 | .ref id off,h=>by
  have h0:=h id (by simp[fq])
  simp only[aK];rw[<-h0];cases hS:S[id]? with
  |none=>rfl
  |some ob=>
   cases ob<;>simp only;rename_i t cs;rw[jI λi hi=>h i (by simp[fq,hS,hi])]
 | .sl id n,h=>by simp only[aK];rw[h id (by simp[fq])]
 | .er id k i off,_=>rfl
 | .dp cs,_=>rfl
 | .agg cs,h=>by simp only[aK];rw[dk (xs:=cs) λi hi=>h i (by simpa[fq] using hi)]
 | .fn f cs,h=>by simp only[aK];rw[dk (xs:=cs) λi hi=>h i (by simpa[fq] using hi)]
 | .tup cs,h=>by simp only[aK];rw[dk (xs:=cs) λi hi=>h i (by simpa[fq] using hi)]
 | .mp id,h=>by simp only[aK];rw[h id (by simp[fq])]
 | .so _ _ _ _,_=>rfl
 | .sc _ _ _,_=>rfl
 | .dead,_=>rfl
theorem dk {b:Bool} {S S2:List Ob}:∀ {xs:List FV},(∀i∈cw S xs,S[i]?=S2[i]?)->aI b S xs=aI b S2 xs
 |[],_=>rfl
 |x::r,h=>by simp only[aI];rw[kC (x:=x) λi hi=>h i (by simp[cw,hi]),dk (xs:=r) λi hi=>h i (by simp[cw,hi])]
end
mutual
theorem rx {S S2:List Ob}:∀ {x:FV},(∀i∈fq S x,S[i]?=S2[i]?)->fq S x=fq S2 x
 | .d x,_=>rfl
 | .ref id off,h=>by simp only[fq];rw[h id (by simp[fq])]
 | .sl id n,_=>rfl
 | .er id k i off,_=>rfl
 | .dp cs,_=>rfl
 | .agg cs,h=>by simp only[fq];exact c7 (xs:=cs) λi hi=>h i (by simpa[fq] using hi)
 | .fn f cs,h=>by simp only[fq];exact c7 (xs:=cs) λi hi=>h i (by simpa[fq] using hi)
 | .tup cs,h=>by simp only[fq];exact c7 (xs:=cs) λi hi=>h i (by simpa[fq] using hi)
 | .mp id,_=>rfl
 | .so _ _ _ _,_=>rfl
 | .sc _ _ _,_=>rfl
 | .dead,_=>rfl
theorem c7 {S S2:List Ob}:∀ {xs:List FV},(∀i∈cw S xs,S[i]?=S2[i]?)->cw S xs=cw S2 xs
 |[],_=>rfl
 |x::r,h=>by simp only[cw];rw[rx (x:=x) λi hi=>h i (by simp[cw,hi]),c7 (xs:=r) λi hi=>h i (by simp[cw,hi])]
end
theorem jT {S S2:List Ob} {perm:List Nat} (hl:S.length=S2.length):∀ {xs cs:List FV},(∀i∈cw S xs,S[i]?=S2[i]?)->eb S perm xs cs->eb S2 perm xs cs
 |[],[],_,h=>h
 |[],_::_,_,h=>h.elim
 |_::_,[],_,h=>h.elim
 |x::xs,c::cs,hi,h=>by
  simp only[eb] at h ⊢;refine⟨?_,jT hl (λi h'=>hi i (by simp[cw,h'])) h.2⟩
  rcases h.1 with h1|h1
  ·exact .inl (by rw[<-hl];exact h1)
  ·exact .inr (by rw[<-kC λi h'=>hi i (by simp[cw,h'])];exact h1)
theorem ia.congr {nid:Nat} {e:Ev} {rd sh:List Nat} (h:ia P T all o s nid e rd sh) (hl:s.S.length=s2.S.length) (hn:s.nt=s2.nt) (he:∀t∈jv all o,get s.env t=get s2.env t)
 (hr:∀i∈rd,s.S[i]?=s2.S[i]?) (hsh:∀i∈sh,(s.S[i]?).map shp=(s2.S[i]?).map shp):ia P T all o s2 nid e rd sh:=by
 have hw:=pD he;have hx:∀x∈o.op.operands.toList,evX s x=evX s2 x:=λx hx=>uW (λt ht=>he t (by unfold jv;exact List.mem_append_left _ ht)) hx
 cases h with
 |skip h hd=>exact .skip (hw▸h) (hn▸hd)
 | @op s1 h h1 h2=>
  have e1:=pW (o:=o) hx;have e2:=eR (o:=o) hx;have e3:msk s (b_ o.op) (dP s o.op)=msk s2 (b_ o.op) (dP s2 o.op):=by
   unfold msk;rw[iO (λt ht=>he t (by unfold jv;exact List.mem_append_left _ ht)),mg hl hr,hn,hl,e1]
  rw[e1,e2,hl];refine .op (hw▸h) (e3▸h1) ?_;rw[<-hl,<-e2];exact h2
 | @lit s1 et k d xs h h1 h0 h2 h3 h4=>
  have e3:msk s (b_ o.op) []=msk s2 (b_ o.op) []:=by
   unfold msk;rw[iO (λt ht=>he t (by unfold jv;exact List.mem_append_left _ ht)),mg hl (by simp),hn,hl]
  exact .lit (hw▸h) (e3▸h1) (by rw[<-eR hx];exact h0) (by rw[<-hl];exact h2) h3 (by rw[<-hl];exact h4)
 |sh h h0 h1 hd=>
  have e1:jc s o.op=jc s2 o.op:=by
   unfold jc;split
   ·rename_i ho;rw[hx _ (by simp[ho,Op.operands])]
   ·rename_i ho;rw[hx _ (by simp[ho,Op.operands])]
   ·rfl
  rw[e1];exact .sh (hw▸h) h0 (wg h0 hx hsh h1) (hn▸hd)
 |eqs h ho h1 h2 hE hd=>exact .eqs (hw▸h) ho (by rw[<-hx _ (by simp[ho,Op.operands])];exact h1) (by rw[<-hx _ (by simp[ho,Op.operands])];exact h2) hE (hn▸hd)
 | @lend fx args ts g caps xs cargs v h ho hf hxs hv hc hcall hfl hd=>
  have hx1:evX s fx=evX s2 fx:=hx fx (by simp[ho,Op.operands,Call.operands])
  have hx2:evXs s args.toList=evXs s2 args.toList:=mz λx hx'=>hx x (by simp[ho,Op.operands,Call.operands];exact .inr (by simpa using hx'))
  rw[c7 hr];exact .lend (hw▸h) ho (hx1▸hf) (hx2▸hxs) (by rw[<-dk hr];exact hv) hc hcall hfl (hn▸hd)
 | @call fx args ts g caps xs cargs cS perm r0 S0 h ho hf hxs hc hnd ha hpass hcall hb hd=>
  have hx1:evX s fx=evX s2 fx:=hx fx (by simp[ho,Op.operands,Call.operands])
  have hx2:evXs s args.toList=evXs s2 args.toList:=mz λx hx'=>hx x (by simp[ho,Op.operands,Call.operands];exact .inr (by simpa using hx'))
  rw[c7 λi hi=>hr i (List.mem_append_left _ hi),hl]
  refine .call perm (hw▸h) ho (hx1▸hf) (hx2▸hxs) hc hnd (jT hl (λi hi=>hr i (List.mem_append_left _ hi)) ha) ⟨hpass.1,λj i c hj hc'=>?_⟩ hcall (hl▸hb) (hn▸hd)
  rw[<-hl,<-hr i (List.mem_append_right _ (List.mem_of_getElem? hj))];exact hpass.2 j i c hj hc'
end
end Go.Proofs.YtlhmejigmokbhaaGreatDoor.Pay
namespace Go.Proofs.YtlhmejigmokbhaaGreatDoor.Pay
open Go Go.RowKit
set_option linter.unusedSimpArgs false
set_option linter.unusedVariables false
theorem ud {P:Program} {o:Oper} {a:Act} {n n':Act->World->Prop} {Q Q':Exit->Act->World->Prop} (hn:∀a w,n a w->n' a w) (hp:∀c a w,¬Q (.panic c) a w) (ho:¬LetsOut Q)
 {r:Result Next} (h:o.upon P a n Q r):o.upon P a n' Q' r:=by
 unfold Oper.upon at h ⊢;split at h
 ·exact hn _ _ h
 ·exact hn _ _ h
 ·exact hn _ _ h
 ·exact h.mono λe w hw=>by
   cases e with
   |returned v=>exact hn _ _ hw
   |panicked c=>exact(hp _ _ _ hw).elim
   |outgrown=>exact(ho hw).elim
 ·exact h.mono λv w hw=>hn _ _ hw
 ·exact(hp _ _ _ h).elim
 ·exact h.elim
theorem cz:∀ {i:Nat} {S:List Ob},df [] i S=S
 |_,[]=>rfl
 |i,o::r=>by simp[df,dH,cz]
theorem ew {s1:St}:∀ {wr:List Nat} {i:Nat},dH (iY s1 wr) i=if i∈wr then some ((s1.S[i]?).getD .gone) else none
 |[],i=>by simp[iY,dH]
 |j::r,i=>by
  simp only[iY,dH];by_cases h:j=i
  ·subst h;simp
  ·rw[if_neg h,ew];simp[Ne.symm h]
theorem eg {s:St} {d:Option Nat} {x:FV} (hd:∀d',d=some d'->d'<s.nt):aY s d x=some {s with env:=eM d x s.env}:=by
 unfold aY;cases d with
 |none=>rfl
 |some d=>simp only;rw[if_pos (hd d rfl)];rfl
section
variable {P:Program} {T:Nat->Option TI} {w w':World} {I I':Nat->Prop} {L L':List Lay} {s s' s1 s2:St} {a:Act} {all ops:Array Oper} {o:Oper} {rest:List Oper} {Q:Exit->St->Prop} {c:Code} {md:Region.Mode}
def Do1 (P:Program) (all:Array Oper) (o:Oper) (s s':St):Prop:=∀w I L a,SR w I L s a->∀(K:Act->World->Prop) (Q:Exit->Act->World->Prop),
 (∀a' w' I' L',SR w' I' L' s' a'->bq w I L s w' I' L' s'->K a' w')->if Region.wanted o (yielded all a.tmps)=true then o.wp P a w K Q\/(o.asks P a w/\LetsOut Q) else K (a.put o.dst undef) w
theorem Do1.of_wpo (h:WpO P all [o] s (λe s1=>e= .normal/\s1=s')):Do1 P all o s s':=λw I L a hs K Q hK=>by
 have h0:=h w I L a hs;have hno:¬LetsOut (mY w I L s λe s1=>e= .normal/\s1=s'):=λ⟨_,_,s1,I1,L1,⟨he,_⟩,_⟩=>by cases he
 have hn:∀a' w',wpList P all (mY w I L s λe s1=>e= .normal/\s1=s') [] a' w'->K a' w':=λa' w' h'=>by
  obtain⟨s1,I1,L1,⟨_,rfl⟩,r,t⟩:=h';exact hK _ _ _ _ r t
 unfold wpList at h0;split
 ·rename_i hw;rw[if_pos hw] at h0;rcases h0 with h0|⟨_,h0⟩
  ·exact .inl (ud hn (λc a w ⟨s1,I1,L1,⟨he,_⟩,_⟩=>by cases he) hno h0)
  ·exact absurd h0 hno
 ·rename_i hw;rw[if_neg hw] at h0;exact hn _ _ h0
theorem Do1.of_op (hw:bh all s o=some true) (ho:bK P o s s'):Do1 P all o s s':=Do1.of_wpo (WpO.step hw ho (WpO.nil ⟨rfl,rfl⟩))
theorem Do1.gh (h:Do1 P all o s s1) (g:Gh s1 s'):Do1 P all o s s':=λw I L a hs K Q hK=>h w I L a hs K Q λa' w' I' L' h1 h2=>by
 obtain⟨I2,L2,r,t⟩:=g w' I' L' a' h1;exact hK a' w' I2 L2 r (h2.trans t)
theorem Do1.of_sr (h:∀w I L a,SR w I L s a->Do1 P all o s s'):Do1 P all o s s':=λw I L a hs=>h w I L a hs w I L a hs
theorem vt {m:List (Nat×Ob)} {nid:Nat} {ob:Ob} {S:List Ob} (hlt:nid<S.length):(df m 0 S).set nid ob=df ((nid,ob)::m) 0 S:=by
 apply List.ext_getElem?;intro j;rw[be,Nat.zero_add];by_cases h:nid=j
 ·subst h;rw[List.getElem?_set_self (by rw[dO];exact hlt),List.getElem?_eq_getElem hlt]
  simp[dH]
 ·rw[List.getElem?_set_ne h,be,Nat.zero_add];simp[dH,h]
theorem yH {wr:List Nat} {S:List Ob} (hlen:s1.S.length=S.length):jQ wr 0 S s1.S=df (iY s1 wr) 0 S:=by
 apply List.ext_getElem?;intro j;rw[jP (by omega),be,Nat.zero_add,ew]
 by_cases hj:j<S.length
 ·by_cases hw:j∈wr
  ·rw[if_neg (by simp[hw]),List.getElem?_eq_getElem hj,List.getElem?_eq_getElem (by omega)]
   simp[hw]
  ·rw[if_pos ⟨hj,hw⟩];simp[hw]
 ·rw[if_neg (by simp[hj]),List.getElem?_eq_none (by omega),List.getElem?_eq_none (by omega)]
  rfl
theorem oh {wr:List Nat} {S:List Ob} {ob:Ob} (hlen:s1.S.length=S.length+1) (hob:s1.S[S.length]?=some ob):jQ wr 0 S s1.S=df (iY s1 wr) 0 S++[ob]:=by
 apply List.ext_getElem?;intro j;rw[jP (by omega),Nat.zero_add]
 by_cases hj:j<S.length
 ·rw[List.getElem?_append_left (by rw[dO];exact hj),be,Nat.zero_add,ew]
  by_cases hw:j∈wr
  ·rw[if_neg (by simp[hw]),List.getElem?_eq_getElem hj,List.getElem?_eq_getElem (by omega)]
   simp[hw]
  ·rw[if_pos ⟨hj,hw⟩];simp[hw]
 ·rw[if_neg (by simp[hj]),List.getElem?_append_right (by rw[dO];omega),dO]
  by_cases hj2:j=S.length
  ·subst hj2;simp[hob]
  ·rw[List.getElem?_eq_none (by omega),List.getElem?_eq_none (by simp;omega)]
theorem kY {σ:Nat->Nat}:∀ {perm:List Nat} {S1:List Ob} {i:Nat},perm.length=S1.length->perm.Nodup->dH (perm.zip (aF σ S1)) i=if h:i∈perm then(S1[perm.idxOf i]?).map (cC σ) else none
 |[],_,i,_,_=>by simp[dH]
 |j::p,[],i,h,_=>by simp at h
 |j::p,ob::r,i,h,hn=>by
  simp only[aF,List.zip_cons_cons,dH];by_cases hj:j=i
  ·subst hj;simp
  ·have hn':=(List.nodup_cons.1 hn).2;rw[if_neg hj,kY (by simpa using h) hn']
   by_cases hm:i∈p
   ·rw[dif_pos hm,dif_pos (by simp[hm]),show(j::p).idxOf i=p.idxOf i+1 from by simp[List.idxOf_cons,cond_eq_ite,hj]];simp
   ·rw[dif_neg hm,dif_neg (by simp[hm,Ne.symm hj])]
theorem rL {perm:List Nat} {S1:List Ob} {σ:Nat->Nat} {S:List Ob} (hl:perm.length=S1.length) (hn:perm.Nodup) (hlt:∀i∈perm,i<S.length):bI S perm (aF σ S1)=df (perm.zip (aF σ S1)) 0 S:=by
 apply List.ext_getElem?;intro j;rw[be,Nat.zero_add,kY hl hn];by_cases hj:j∈perm
 ·have h1:=List.idxOf_lt_length_of_mem hj;rw[dif_pos hj];have h2:perm[perm.idxOf j]?=some j:=by rw[List.getElem?_eq_getElem h1,List.getElem_idxOf]
  rw[j5 perm S (aF σ S1) (perm.idxOf j) j (cC σ (S1[perm.idxOf j]'(hl▸h1))) hn h2 (by rw[dC,List.getElem?_eq_getElem (hl▸h1)];rfl) (hlt j hj)]
  rw[List.getElem?_eq_getElem (hlt j hj),List.getElem?_eq_getElem (hl▸h1)];rfl
 ·rw[dif_neg hj,eh _ _ _ _ hj];cases S[j]?<;>rfl
theorem oU {ops:Op} {rd:List Nat} {x:Operand} (hx:x∈ops.operands.toList):evX (msk s (b_ ops) rd) x=evX s x:=by
 cases x with
 |tmp t=>
  simp only[evX,msk];have hm:t∈b_ ops:=iP hx;generalize b_ ops=ts at hm;induction ts with
  |nil=>simp at hm
  |cons k r ih=>
   unfold kV;by_cases hk:k=t
   ·subst hk;cases hg:get s.env k with
    |some y=>simp[get]
    |none=>
     simp only;cases hg2:get (kV s.env r) k with
     |none=>rfl
     |some y=>rw[ju hg2] at hg;cases hg
   ·rcases List.mem_cons.1 hm with h'|h'
    ·exact absurd h'.symm hk
    ·cases hg:get s.env k with
     |some y=>simp only[get];rw[if_neg hk];exact ih h'
     |none=>exact ih h'
 |_=>rfl
theorem Gh.frzNew {d et k pin nt:Nat} {env:List (Nat×FV)} {S:List Ob} {xs:List D} (he:∀t x,get env t=some x->∀j∈bG x,j<S.length) (hS:∀(i:Nat) (ob:Ob),S[i]?=some ob->∀j∈gq ob,j<S.length) (hp:pin<=S.length):
 Gh ⟨(d,.sl S.length xs.length)::env,S++[.arr et k xs],nt,pin⟩ ⟨(d,.d (.list k xs))::env,S,nt,pin⟩:=by
 have g1:=Gh.freeze (s:=⟨(d,.sl S.length xs.length)::env,S++[.arr et k xs],nt,pin⟩) (id:=S.length) (e:=et) (k:=k) (xs:=xs) (by simp)
 have hset:(S++[Ob.arr et k xs]).set S.length (.frz k xs)=S++[.frz k xs]:=by
  rw[List.set_append_right _ _ (Nat.le_refl _)];simp
 simp only[hset] at g1;have g2:=Gh.view (s:=⟨(d,.sl S.length xs.length)::env,S++[.frz k xs],nt,pin⟩) (t:=d) (x:= .sl S.length xs.length) (y:= .d (.list k xs)) (by simp[get]) (by simp[aK])
 have hσ:∀j,j<S.length->σ0 (S++[Ob.frz k xs]).length (List.range S.length) j=j:=by
  intro j hj;simp[σ0,List.getD,List.getElem?_range hj]
 have g3:=Gh.renum (s:=⟨(d,.d (.list k xs))::(d,.sl S.length xs.length)::env,S++[.frz k xs],nt,pin⟩) (List.range S.length) List.nodup_range (by simp;omega) (env:=(d,.d (.list k xs))::env) (S:=S) (by
  intro t x hx;simp only[get] at hx ⊢;by_cases hd:d=t
  ·rw[if_pos hd] at hx ⊢;cases hx;rfl
  ·rw[if_neg hd] at hx;rw[if_neg hd,if_neg hd,gJ λj hj=>hσ j (he t x hx j hj)];exact hx) ⟨by simp,by
  intro j i c hj hc;have hjl:j<S.length:=by simpa using(List.getElem?_eq_some_iff.1 hj).1
  rw[List.getElem?_range hjl] at hj;cases hj;rw[ik λm hm=>hσ m (hS j c hc m hm)]
  show(S++[Ob.frz k xs])[j]?=some c
  rw[List.getElem?_append_left hjl];exact hc⟩ (λi hi=>List.getElem?_range (by have:i<pin:=hi;omega))
 exact(g1.trans g2).trans g3
theorem ia.do (hT:aP P T) {nid:Nat} {e:Ev} {rd sh:List Nat} (h:ia P T all o s nid e rd sh) (hp:s.pin<=s.S.length) (hf:(dH e.mods nid).isSome=true->t8 nid s):Do1 P all o s (e.app o.dst s):=by
 cases h with
 |skip h hd=>
  refine Do1.of_wpo (WpO.skip h (s':=_) (eg hd) (WpO.nil ⟨rfl,?_⟩));simp[Ev.app,cz]
 | @lit s1 et k d xs h h1 h0 h2 h3 h4=>
  have hout:=qG h1;have hN:(msk s (b_ o.op) []).S.length=s.S.length:=by simp[msk,gP]
  have hwr:bF (msk s (b_ o.op) []) o.op=[]:=by rw[eR λx hx=>oU hx];exact h0
  have hlt:s.S.length<s1.S.length:=(List.getElem?_eq_some_iff.1 h2).1;have hfr:=bK.frame (wr:=[]) (v:= .sl s.S.length xs.length) (lg hT h1) hp (by omega) hout.nt (λi hi _=>hout.keep i (by rw[hN];exact hi) (by rw[hwr];simp))
   (λd' hd'=>by rw[h3] at hd';cases hd';exact⟨h4,(hout.dst d h3).2⟩)
  have hl:s1.S.length=s.S.length+1:=by rcases hout.len with h'|h'<;>rw[hN] at h'<;>omega
  rw[oh hl h2,show iY s1 []=[] from rfl,cz] at hfr
  refine Do1.of_sr λw I L a hs=>Do1.gh (Do1.of_op h hfr) ?_
  obtain⟨ids1,ids2⟩:=hs.ids;have hg:=Gh.frzNew (d:=d) (et:=et) (k:=k) (nt:=s.nt) (xs:=xs) ids1 ids2 hp;simp only[Ev.app,h3,eM,cz];exact hg
 |sh h h0 h1 hd=>
  refine Do1.of_op h (bK.val hT h1 ?_);rw[eg hd];simp[Ev.app,cz]
 |eqs h ho h1 h2 hE hd=>
  refine Do1.of_wpo (WpO.eqS _ h ho h1 h2 hE (eg hd) (WpO.nil ⟨rfl,?_⟩));simp[Ev.app,cz]
 | @lend fx args ts g caps xs cargs v h ho hfx hxs hv hc hcall hfl hd=>
  refine Do1.of_wpo (WpO.callL h ho hfx hxs hv hc hcall λr S1 hr=>?_)
  subst hr;exact⟨hfl,_,eg hd,WpO.nil ⟨rfl,by simp[Ev.app,cz]⟩⟩
 | @op s1 h h1 h2=>
  have hout:=qG h1;have hN:(msk s (b_ o.op) (dP s o.op)).S.length=s.S.length:=by simp[msk,gP]
  have hnt:s1.nt=s.nt:=hout.nt;have hx:∀x∈o.op.operands.toList,evX (msk s (b_ o.op) (dP s o.op)) x=evX s x:=λx hx=>oU hx
  have hwr:bF (msk s (b_ o.op) (dP s o.op)) o.op=bF s o.op:=eR hx;obtain⟨v,hv⟩:∃v,v=xv o.dst s1.env:=⟨_,rfl⟩
  have hdst:∀d,o.dst=some d->get s1.env d=some v/\d<s.nt:=λd hd=>by
   obtain⟨⟨u,hu⟩,hlt⟩:=hout.dst d hd;refine⟨?_,hlt⟩;rw[hv,hd];simp[xv,hu]
  have hfr:=bK.frame (wr:=bF s o.op) (lg hT h1) hp (by rcases hout.len with h'|h'<;>rw[h',hN]<;>omega) hnt
   (λi hi hiw=>hout.keep i (by rw[hN];exact hi) (by rw[hwr];exact hiw)) hdst
  unfold sX at h2;simp only[<-hv] at h2;rcases hout.len with hl|hl
  ·rw[hN] at hl;have hnone:s1.S[s.S.length]?=none:=List.getElem?_eq_none (by omega)
   rw[hnone] at h2;simp only[List.all_eq_true,decide_eq_true_eq] at h2;refine Do1.of_op h ?_;have he:(m8 o.dst s.S.length nid (bF s o.op) s1).app o.dst s=⟨eM o.dst (v) s.env,jQ (bF s o.op) 0 s.S s1.S,s.nt,s.pin⟩:=by
    unfold m8 Ev.app;rw[yH hl,hnone,<-hv,gJ (x:=v) λj hj=>by have:=h2 j hj;unfold mvN;rw[if_neg (by omega)]]
    rfl
   rw[he];exact hfr
  ·rw[hN] at hl;obtain⟨ob,hob⟩:∃ob,s1.S[s.S.length]?=some ob:=⟨_,List.getElem?_eq_getElem (by omega)⟩
   rw[hob] at h2;simp only[Bool.and_eq_true,List.all_eq_true,decide_eq_true_eq] at h2;obtain⟨⟨h2a,h2b⟩,h2c⟩:=h2;have hF:t8 nid s:=hf (by simp[m8,hob,dH])
   have hlt:nid<s.S.length:=(List.getElem?_eq_some_iff.1 hF.gone).1;refine Do1.of_sr λw I L a hs=>Do1.gh (Do1.of_op h hfr) ?_
   obtain⟨ids1,ids2⟩:=hs.ids;rw[oh hl hob];have hul:(df (iY s1 (bF s o.op)) 0 s.S).length=s.S.length:=dO;have hobs:∀(i:Nat) (ob:Ob),(df (iY s1 (bF s o.op)) 0 s.S)[i]?=some ob->∀j∈gq ob,j<(df (iY s1 (bF s o.op)) 0 s.S).length/\j≠nid:=by
    intro i ob' hi j hj;rw[hul];rw[be,Nat.zero_add,ew,Option.map_eq_some_iff] at hi;obtain⟨ob0,hob0,hi⟩:=hi;by_cases hw:i∈bF s o.op
    ·rw[if_pos hw] at hi;simp only[Option.getD_some] at hi;subst hi;exact(h2c i hw).2 j hj
    ·rw[if_neg hw] at hi;simp only[Option.getD_none] at hi;subst hi;exact⟨ids2 i _ hob0 j hj,λe=>hF.obs i _ hob0 (e▸hj)⟩
   have hfill:=Gh.fill (d:=o.dst) (env:=s.env) (S:=df (iY s1 (bF s o.op)) 0 s.S) (nt:=s.nt) (pin:=s.pin) (nid:=nid) (v:=v) (ob:=ob)
    (by
     rw[be,Nat.zero_add,ew,hF.gone];have:nid∉bF s o.op:=λh'=>(h2c nid h').1 rfl
     simp[this])
    hF.pin (λt x hx j hj=>⟨by rw[hul];exact ids1 t x hx j hj,λe=>hF.env t x hx (e▸hj)⟩) hobs (λj hj=>by rw[hul];exact h2b j hj) (λj hj=>by rw[hul];exact h2a j hj)
   rw[hul,vt hlt] at hfill;have he:(m8 o.dst s.S.length nid (bF s o.op) s1).app o.dst s=⟨eM o.dst (ren (mvN s.S.length nid) v) s.env,df ((nid,ob)::iY s1 (bF s o.op)) 0 s.S,s.nt,s.pin⟩:=by
    unfold m8 Ev.app;rw[hob,<-hv];rfl
   rw[he];exact hfill
 | @call fx args ts g caps xs cargs cS perm r0 S0 h ho hfx hxs hc hnd ha hpass hcall hb hd=>
  unfold lC at hb;simp only[Bool.and_eq_true,List.all_eq_true,decide_eq_true_eq] at hb;obtain⟨⟨⟨⟨b1,b2⟩,b3⟩,b4⟩,b5⟩:=hb;have hpl:∀i∈perm,i<s.S.length:=λi hi=>(b3 i hi).1
  have hcall':=WpO.call h ho hfx hxs hc hp perm hnd hpl ha hpass hcall (rest:=[]) (all:=all)
   (Q:=λe s1=>e= .normal/\s1=⟨eM o.dst (ren (σ1 s.S.length perm) r0) s.env,bI s.S perm (aF (σ1 s.S.length perm) (S0.take perm.length))++aF (σ1 s.S.length perm) (S0.drop perm.length),s.nt,s.pin⟩)
   (λr S1 ⟨hr,hS⟩=>⟨_,eg hd,by subst hr;subst hS;exact WpO.nil ⟨rfl,rfl⟩⟩)
  have htl:perm.length=(S0.take perm.length).length:=by rw[List.length_take];omega
  rw[rL htl hnd hpl] at hcall';have hmemr:∀ob∈S0,cC (σ1 s.S.length perm) ob∈aF (σ1 s.S.length perm) S0:=by
   intro ob' h';obtain⟨i,hi⟩:=List.getElem?_of_mem h';exact List.mem_of_getElem? (by rw[dC,hi];rfl)
  have hτ:∀ob,cC (τ1 s.S.length nid perm) ob=cC (mvN s.S.length nid) (cC (σ1 s.S.length perm) ob):=λob=>by rw[nJ];rfl
  by_cases hS0:S0.length=perm.length
  ·have hdr:S0.drop perm.length=[]:=List.drop_eq_nil_of_le (by omega)
   rw[if_pos hS0] at b4 b5;rw[hdr] at hcall';simp only[aF,List.append_nil] at hcall';refine Do1.of_wpo ?_;have hrs:aF (τ1 s.S.length nid perm) (S0.take perm.length)=aF (σ1 s.S.length perm) (S0.take perm.length):=by
    apply List.ext_getElem?;intro i;rw[dC,dC];cases hx:(S0.take perm.length)[i]? with
    |none=>rfl
    |some ob=>
     have hm:=hmemr ob (List.mem_of_mem_take (List.mem_of_getElem? hx));rw[Option.map_some,Option.map_some,hτ,ik λj hj=>by have:=b5 _ hm j hj;unfold mvN;rw[if_neg (by omega)]]
   have he:Ev.app ⟨ren (mvN s.S.length nid) (ren (σ1 s.S.length perm) r0),fj s.S.length nid perm S0⟩ o.dst s=
    ⟨eM o.dst (ren (σ1 s.S.length perm) r0) s.env,df (perm.zip (aF (σ1 s.S.length perm) (S0.take perm.length))) 0 s.S,s.nt,s.pin⟩:=by
    unfold Ev.app fj;rw[hdr,gJ (x:=ren (σ1 s.S.length perm) r0) λj hj=>by have:=b4 j hj;unfold mvN;rw[if_neg (by omega)],hrs]
    rfl
   rw[he];exact hcall'
  ·rw[if_neg hS0] at b4 b5;obtain⟨ob,hob⟩:∃ob,S0.drop perm.length=[ob]:=by
    have:(S0.drop perm.length).length=1:=by rw[List.length_drop];omega
    exact List.length_eq_one_iff.1 this
   rw[hob] at hcall';simp only[aF] at hcall';have hmem:ob∈S0:=List.mem_of_mem_drop (by rw[hob];simp)
   have hF:t8 nid s:=hf (by simp[fj,hob,dH])
   have hlt:nid<s.S.length:=(List.getElem?_eq_some_iff.1 hF.gone).1;refine Do1.of_sr λw I L a hs=>Do1.gh (Do1.of_wpo hcall') ?_
   obtain⟨ids1,ids2⟩:=hs.ids;have hul:∀m:List (Nat×Ob),(df m 0 s.S).length=s.S.length:=λm=>dO
   have key:∀σ:Nat->Nat,(∀j,j<s.S.length->j≠nid->σ j=j)->σ nid=s.S.length->∀ob'∈S0,cC σ (cC (τ1 s.S.length nid perm) ob')=cC (σ1 s.S.length perm) ob':=λσ h1 h2 ob' hm=>by
    rw[hτ,nJ,ik λj hj=>?_]
    obtain⟨g1,g2⟩:=b5 _ (hmemr ob' hm) j hj;unfold mvN;split
    ·rename_i e;rw[h2,e]
    ·exact h1 j (by omega) g2
   have hfill:=Gh.fill2 (d:=o.dst) (env:=s.env) (S:=df (perm.zip (aF (σ1 s.S.length perm) (S0.take perm.length))) 0 s.S)
    (S2:=df ((nid,cC (τ1 s.S.length nid perm) ob)::perm.zip (aF (τ1 s.S.length nid perm) (S0.take perm.length))) 0 s.S) (nt:=s.nt) (pin:=s.pin) (nid:=nid) (v:=ren (σ1 s.S.length perm) r0) (ob:=cC (σ1 s.S.length perm) ob)
    (by rw[hul];exact hlt) hF.pin (λt x hx j hj=>⟨by rw[hul];exact ids1 t x hx j hj,λe=>hF.env t x hx (e▸hj)⟩) (by rw[hul,hul])
    (λσ h1 h2 i x hx=>by
     rw[hul] at h1 h2;rw[be,Nat.zero_add,Option.map_eq_some_iff] at hx;obtain⟨ob0,hob0,hx⟩:=hx;simp only[dH] at hx;by_cases hn:i=nid
     ·subst hn;rw[if_pos rfl,Option.getD_some] at hx;subst hx;rw[if_pos rfl,key σ h1 h2 ob hmem];simp
     ·rw[if_neg (Ne.symm hn),kY htl hnd] at hx;have hil:=(List.getElem?_eq_some_iff.1 hob0).1;rw[if_neg hn,List.getElem?_append_left (by rw[hul];exact hil),be,Nat.zero_add,kY htl hnd,hob0]
      by_cases hw:i∈perm
      ·rw[dif_pos hw] at hx ⊢;have hlt':=List.idxOf_lt_length_of_mem hw;rw[List.getElem?_eq_getElem (htl▸hlt')] at hx ⊢;simp only[Option.map_some,Option.getD_some] at hx ⊢;subst hx;rw[key σ h1 h2 _ (List.mem_of_mem_take (List.getElem_mem _))]
      ·rw[dif_neg hw] at hx ⊢;simp only[Option.getD_none,Option.map_some] at hx ⊢;subst hx;rw[ik λj hj=>h1 j (ids2 i _ hob0 j hj) λe=>hF.obs i _ hob0 (e▸hj)])
    (λj hj=>by rw[hul];have:=b4 j hj;exact⟨by omega,this.2⟩)
   rw[hul] at hfill;have he:Ev.app ⟨ren (mvN s.S.length nid) (ren (σ1 s.S.length perm) r0),fj s.S.length nid perm S0⟩ o.dst s=
    ⟨eM o.dst (ren (mvN s.S.length nid) (ren (σ1 s.S.length perm) r0)) s.env,df ((nid,cC (τ1 s.S.length nid perm) ob)::perm.zip (aF (τ1 s.S.length nid perm) (S0.take perm.length))) 0 s.S,s.nt,s.pin⟩:=by
    unfold Ev.app fj;rw[hob];rfl
   rw[he];exact hfill
end
end Go.Proofs.YtlhmejigmokbhaaGreatDoor.Pay
