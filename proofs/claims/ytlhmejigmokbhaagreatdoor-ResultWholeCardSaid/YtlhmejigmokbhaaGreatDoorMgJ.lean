/- The texts PayO, PayQ, one behind the other. No statement of the seed is proved here. -/
import Derived.Test.YtlhmejigmokbhaaGreatDoorMgI
import Derived.Deep.Quiet
import Derived.Laws.StructEq
import Derived.OrdersHeld
namespace Go.Proofs.YtlhmejigmokbhaaGreatDoor.Pay
open Go Go.RowKit
set_option linter.unusedVariables false
set_option linter.unusedSimpArgs false
section
variable {P:Program} {T:Nat->Option TI} {w w':World} {I I':Nat->Prop} {L L':List Lay} {s s' s1:St} {a:Act} {all:Array Oper} {o:Oper} {rest:List Oper} {Q:Exit->St->Prop} {c:Code}
def Hm (T:Nat->Option TI) (all:Array Oper):List Oper->St->Option St
 |[],s=>some s
 |o::l,s=>(bh all s o).bind λb=>((if b=true then(evA T s o.op).bind λx=>aY s o.dst x else aY s o.dst (.tup [])):Option St).bind λs'=>Hm T all l s'
theorem kj {S S1 cS:List Ob} {perm:List Nat} (hS:jn S perm=some S1) (h2:aF (σ0 S.length perm) cS=S1):mZ S perm cS:=by
 obtain⟨h3,h4⟩:=kh hS;refine⟨by rw[<-h3,<-h2,j_],λj i c hj hc=>h4 j i _ hj ?_⟩
 rw[<-h2];exact l6 hc
theorem WpO.callP {fx:Operand} {args:Array Operand} {ts:Array TypeId} {g:FuncId} {caps xs:List FV} (perm:List Nat) (hw:bh all s o=some true) (ho:o.op= .call {callee:= .value fx,args,argTypes:=ts})
 (hf:evX s fx=some (.fn g caps)) (hx:evXs s args.toList=some xs) (hc:af P g) (hp:s.pin<=s.S.length)
 (hn:perm.Nodup) (hlt:∀i∈perm,i<s.S.length) {cargs:List FV} {cS Sx:List Ob} (ha:eb s.S perm (xs++caps) cargs) (hS:jn s.S perm=some Sx) (h2:aF (σ0 s.S.length perm) cS=Sx)
 {R:FV->List Ob->Prop} (hcall:WpF P g cargs cS R)
 (hrest:∀r S1,R r S1->∃s',aY {s with S:=bI s.S perm (aF (σ1 s.S.length perm) (S1.take perm.length))++aF (σ1 s.S.length perm) (S1.drop perm.length)} o.dst (ren (σ1 s.S.length perm) r)=some s'/\WpO P all rest s' Q):
 WpO P all (o::rest) s Q:=WpO.call hw ho hf hx hc hp perm hn hlt ha (kj hS h2) hcall hrest
theorem Gh.pickE (n:Nat) (perm:List Nat) {env:List (Nat×FV)} {S S1 S':List Ob} {nt pin:Nat} (hb:kB n env=true) (hid:∀i,i<n->perm[i]?=some i) (hn:perm.Nodup) (hlt:∀i∈perm,i<S.length)
 (hS:jn S perm=some S1) (h2:aF (σ0 S.length perm) S'=S1) (hp:pin<=n):Gh ⟨env,S,nt,pin⟩ ⟨env,S',nt,pin⟩:=by
 have hσ:∀i,i<n->σ0 S.length perm i=i:=by
  intro i hi;simp[σ0,List.getD,hid i hi]
 refine Gh.renum (s:=⟨env,S,nt,pin⟩) perm hn hlt (λt x hx=>?_) (kj hS h2) (λi hi=>hid i (Nat.lt_of_lt_of_le hi hp))
 rw[nI hσ (mQ hb hx)];exact hx
theorem Gh.nilCell {id off t:Nat} {cs:List FV} (e k:Nat) (hS:s.S[id]?=some (.cells t cs)) (hx:cs[off]?=some (.d .nil)) (hp:s.pin<=s.S.length):
 Gh s {s with S:=s.S.set id (.cells t (cs.set off (.sl s.S.length 0)))++[.arr e k []]}:=λw I L a hs=>by
 have hor:b7 w I (L++[.a none 0]) (.arr e k []) (.a none 0):= .inl ⟨none,0,[],rfl,World.ownsRow_nil w 0 e k,by simp[ax]⟩
 have r1:=hs.more (w':=w) (λ_ _=>rfl) (Nat.le_refl _) hor (λb hb=>by simp[own] at hb) (dE _ _)
 have r2:=bq.more (w':=w) hs (λ_ _=>rfl) rfl rfl rfl (Nat.le_refl _) (o:= .arr e k []) (l:= .a none 0) (λb hb=>by simp[own] at hb) hp
 have hlt:id<s.S.length:=(List.getElem?_eq_some_iff.1 hS).1;have hll:id<L.length:=by rw[hs.len];exact hlt
 obtain⟨l,hl⟩:∃l,L[id]?=some l:=⟨L[id],List.getElem?_eq_getElem hll⟩
 have hown:∀l,own (.cells t (cs.set off (.sl s.S.length 0))) l=own (.cells t cs) l:=λl=>by cases l<;>rfl
 have howns:aB (s.S.set id (.cells t (cs.set off (.sl s.S.length 0)))++[.arr e k []]) (L++[.a none 0])=aB (s.S++[.arr e k []]) (L++[.a none 0]):=by
  rw[show s.S.set id (.cells t (cs.set off (.sl s.S.length 0)))++[Ob.arr e k []]=(s.S++[Ob.arr e k []]).set id (.cells t (cs.set off (.sl s.S.length 0))) from(List.set_append_left _ _ hlt).symm]
  exact gN (by rw[List.getElem?_append_left hlt];exact hS) (by rw[List.getElem?_append_left hll];exact hl) (hown _)
 refine⟨I,L++[.a none 0],⟨r1.env,r1.nt,by simp[hs.len],?_,by rw[howns];exact r1.nodup,by rw[howns];exact r1.sep,r1.imm,r1.defers⟩,⟨⟨r2.evo.os,r2.evo.tape,r2.evo.output,r2.evo.size,r2.evo.keep,r2.evo.imm,r2.evo.immNew,by
  show∀b∈aB (s.S.set id (.cells t (cs.set off (.sl s.S.length 0)))++[.arr e k []]) (L++[.a none 0]),_
  rw[howns];exact r2.evo.own⟩,r2.pin,r2.lay⟩⟩
 intro j oj lj h1 h2;have h1':(s.S.set id (.cells t (cs.set off (.sl s.S.length 0)))++[.arr e k []])[j]?=some oj:=h1;rw[show s.S.set id (.cells t (cs.set off (.sl s.S.length 0)))++[Ob.arr e k []]=(s.S++[Ob.arr e k []]).set id (.cells t (cs.set off (.sl s.S.length 0))) from(List.set_append_left _ _ hlt).symm] at h1'
 by_cases hj:id=j
 ·subst hj;rw[List.getElem?_set_self (by simp;omega)] at h1'
  cases h1';have h3:=r1.obs id (.cells t cs) lj (by show(s.S++[_])[id]?=_;rw[List.getElem?_append_left hlt];exact hS) h2
  obtain⟨b,vs,rfl,hb,ho,hr⟩:=h3;refine⟨b,vs,rfl,hb,ho,?_⟩;obtain⟨v,hv,hd⟩:=hr.get off _ hx;simp only[ai,ar] at hd;subst hd;have:=hr.set off (x:= .sl s.S.length 0) (v:= .slice none 0 0) (by
   simp only[ai];exact⟨.a none 0,none,0,by rw[List.getElem?_append_right (by rw[hs.len];exact Nat.le_refl _),hs.len];simp,rfl,rfl⟩)
  have hsame:vs.set off (Value.slice none 0 0)=vs:=by
   apply List.ext_getElem?;intro q;rw[List.getElem?_set];by_cases hq:off=q
   ·subst hq;rw[if_pos rfl,if_pos (List.getElem?_eq_some_iff.1 hv).1,hv]
   ·rw[if_neg hq]
  rwa [hsame] at this
 ·rw[List.getElem?_set_ne hj] at h1';exact r1.obs j oj lj h1' h2
theorem WpC.join (st:St) (h:WpC P c s (λe s1=>e= .normal/\Gh s1 st)) (k:Q .normal st):WpC P c s Q:=
 WpC.post h λ_ _ ⟨he,g⟩=>⟨st,g,he▸k⟩
def xE (T:Nat->Option TI) (all:Array Oper) (o:Oper) (s:St):Option St:=(bh all s o).bind λb=>if b=true then ky T o s else aY s o.dst (.tup [])
theorem WpO.one (hT:aP P T) (h:xE T all o s=some s') (k:WpO P all rest s' Q):WpO P all (o::rest) s Q:=by
 simp only[xE,Option.bind_eq_some_iff] at h;obtain⟨b,hb,h1⟩:=h;cases b with
 |true=>exact WpO.step hb (lg hT (by simpa using h1)) k
 |false=>exact WpO.skip hb (by simpa using h1) k
structure EqT (P:Program) (t:TypeId) (xs ys:List D) (b:Bool):Prop where
 guard:P.eqGuardType P.depth t=false
 eq:∀(w:World) (I:Nat->Prop) (vs us:List Value),au w I xs vs->au w I ys us->(Op.equal t (.agg vs.toArray) (.agg us.toArray)).run P w= .ok b w
def xO (neg:Bool):BinOp:=if neg=true then .neq else .eql
theorem WpO.eqS {t ty:TypeId} {x y:Operand} {xs ys:List D} {b:Bool} (neg:Bool) (hw:bh all s o=some true) (ho:o.op= .binOp (xO neg) t x y ty) (hx:evX s x=some (.d (.agg xs))) (hy:evX s y=some (.d (.agg ys)))
 (hE:EqT P t xs ys b) (hset:aY s o.dst (.d (.bool (b^^neg)))=some s') (k:WpO P all rest s' Q):WpO P all (o::rest) s Q:=by
 refine WpO.step hw (λw I L a hs=>?_) k
 have h1:=hs.evX hx;have h2:=hs.evX hy;simp only[ai,ar] at h1 h2;obtain⟨vs,h1,_,h3⟩:=h1;obtain⟨us,h2,_,h4⟩:=h2;have he:=hE.eq w I vs us h3 h4;have hrun:(execOp a.eval o).run P w= .ok (.value (.bool (b^^neg))) w:=by
  unfold execOp;cases neg
  ·simp[ho,xO,eqGuard,h1,h2,hE.guard,binOp,he]
  ·simp[ho,xO,eqGuard,h1,h2,hE.guard,binOp,he]
 obtain⟨e1,e2,e3⟩:=hs.put (x:= .d (.bool (b^^neg))) (v:= .bool (b^^neg)) (by simp only[ai,ar]) hset
 refine⟨_,w,I,L,_,hrun,.inl rfl,e1,⟨?_,e3,λ_ _=>rfl⟩⟩
 rw[e2];exact Evo.refl _ _ _
def D.leL:List D->List D->Prop
 |[],[]=>True
 |x::r,y::q=>(x=y\/(x= .nil/\∃k,y= .list k []))/\D.leL r q
 |_,_=>False
def FV.le (x y:FV):Prop:=x=y\/(x= .d .nil/\∃k,y= .d (.list k []))\/∃cs ds,x= .d (.agg cs)/\y= .d (.agg ds)/\D.leL cs ds
def leA:List FV->List FV->Prop
 |[],[]=>True
 |x::r,y::q=>FV.le x y/\leA r q
 |_,_=>False
theorem qe {k:Nat} {v:Value} (h:ar w I .nil v):ar w I (.list k []) v:=by
 simp only[ar] at h ⊢;exact⟨none,0,by simpa using h,by simp,.inl trivial⟩
theorem wY:∀ {cs ds:List D} {vs:List Value},D.leL cs ds->au w I cs vs->au w I ds vs
 |[],[],vs,_,h=>h
 |x::r,y::q,vs,hl,h=>by
  simp only[au] at h ⊢;obtain⟨v,u,rfl,h1,h2⟩:=h;refine⟨v,u,rfl,?_,wY hl.2 h2⟩;rcases hl.1 with rfl|⟨rfl,k,rfl⟩
  ·exact h1
  ·exact qe h1
 |[],_::_,_,hl,_=>hl.elim
 |_::_,[],_,hl,_=>hl.elim
theorem DT {x y:FV} {v:Value} (hl:FV.le x y) (h:ai w I L x v):ai w I L y v:=by
 rcases hl with rfl|⟨rfl,k,rfl⟩|⟨cs,ds,rfl,rfl,hl⟩
 ·exact h
 ·simp only[ai] at h ⊢;exact qe h
 ·simp only[ai,ar] at h ⊢;obtain⟨vs,h1,h2,h3⟩:=h;exact⟨vs,h1,h2,wY hl h3⟩
theorem rP:∀ {xs ys:List FV} {vs:List Value},leA xs ys->ap w I L xs vs->ap w I L ys vs
 |[],[],vs,_,h=>h
 |x::r,y::q,vs,hl,h=>by
  simp only[ap] at h ⊢;obtain⟨v,u,rfl,h1,h2⟩:=h;exact⟨v,u,rfl,DT hl.1 h1,rP hl.2 h2⟩
 |[],_::_,_,hl,_=>hl.elim
 |_::_,[],_,hl,_=>hl.elim
theorem WpF.le {f:FuncId} {xs ys:List FV} {S:List Ob} {R:FV->List Ob->Prop} (h:WpF P f ys S R) (hl:leA xs ys):WpF P f xs S R:=λw I L vs ha hO=>h w I L vs (rP hl ha) hO
end
def eM (d:Option Nat) (v:FV) (env:List (Nat×FV)):List (Nat×FV):=match d with
 |none=>env
 |some d=>(d,v)::env
def xv (d:Option Nat) (env:List (Nat×FV)):FV:=match d with
 |none=> .tup []
 |some d=>(get env d).getD (.tup [])
mutual
def bG:FV->List Nat
 | .ref id _=>[id]
 | .sl id _=>[id]
 | .er id _ _ _=>[id]
 | .mp id=>[id]
 | .so id _ _ _=>[id]
 | .sc id _ _=>[id]
 | .agg cs=>ed cs
 | .fn _ cs=>ed cs
 | .tup cs=>ed cs
 |_=>[]
def ed:List FV->List Nat
 |[]=>[]
 |x::r=>bG x++ed r
end
def gq:Ob->List Nat
 | .cells _ cs=>ed cs
 |_=>[]
def fR:List Operand->List Nat
 |[]=>[]
 | .tmp t::r=>t::fR r
 |_::r=>fR r
def jv (all:Array Oper) (o:Oper):List Nat:=fR o.op.operands.toList++(match o.guard with|none=>[]|some (j,_)=>((all[j]?).bind (·.dst)).toList)
def kV (env:List (Nat×FV)):List Nat->List (Nat×FV)
 |[]=>[]
 |t::r=>match get env t with
  |some x=>(t,x)::kV env r
  |none=>kV env r
def gu (rd:List Nat):Nat->List Ob->List Ob
 |_,[]=>[]
 |i,o::r=>(if i∈rd then o else .gone)::gu rd (i+1) r
theorem ju {env:List (Nat×FV)}:∀ {ts:List Nat} {t:Nat} {x:FV},get (kV env ts) t=some x->get env t=some x
 |[],t,x,h=>by simp[kV,get] at h
 |k::r,t,x,h=>by
  unfold kV at h;split at h
  ·rename_i y hy;simp only[get] at h;by_cases hk:k=t
   ·rw[if_pos hk] at h;cases h;subst hk;exact hy
   ·rw[if_neg hk] at h;exact ju h
  ·exact ju h
theorem iO {e1 e2:List (Nat×FV)}:∀ {ts:List Nat},(∀t∈ts,get e1 t=get e2 t)->kV e1 ts=kV e2 ts
 |[],_=>rfl
 |k::r,h=>by
  unfold kV;rw[h k (by simp),iO (ts:=r) λt ht=>h t (by simp[ht])]
theorem gP {rd:List Nat}:∀ {i:Nat} {S:List Ob},(gu rd i S).length=S.length
 |_,[]=>rfl
 |i,o::r=>by simp[gu,gP]
theorem eD {rd:List Nat}:∀ {i j:Nat} {S:List Ob},(gu rd i S)[j]?=(S[j]?).map λo=>if i+j∈rd then o else .gone
 |i,j,[]=>by simp[gu]
 |_,0,o::r=>by simp[gu]
 |i,j+1,o::r=>by simp only[gu,List.getElem?_cons_succ];rw[eD,Nat.add_assoc,Nat.add_comm 1 j]
theorem mg {rd:List Nat} {S S':List Ob} (hl:S.length=S'.length) (h:∀j∈rd,S[j]?=S'[j]?):gu rd 0 S=gu rd 0 S':=by
 apply List.ext_getElem?;intro j;rw[eD,eD,Nat.zero_add];by_cases hj:j∈rd
 ·rw[h j hj]
 ·simp only[if_neg hj];by_cases hlt:j<S.length
  ·rw[List.getElem?_eq_getElem hlt,List.getElem?_eq_getElem (hl▸hlt)];rfl
  ·rw[List.getElem?_eq_none (by omega),List.getElem?_eq_none (by omega)]
def msk (s:St) (ts rd:List Nat):St:=⟨kV s.env ts,gu rd 0 s.S,s.nt,s.S.length⟩
section
variable {P:Program} {T:Nat->Option TI} {w w':World} {I I':Nat->Prop} {L L':List Lay} {s s' s1 s2:St} {a:Act} {all ops:Array Oper} {o:Oper} {rest:List Oper} {Q:Exit->St->Prop} {c:Code} {md:Region.Mode}
theorem jq {rd:List Nat}:∀ {i:Nat} {S:List Ob} {L:List Lay},(aB (gu rd i S) L).Sublist (aB S L)
 |_,[],L=>by simp[gu,aB]
 |i,o::r,[]=>by simp[gu,aB]
 |i,o::r,l::L=>by
  simp only[gu,aB];split
  ·exact(List.Sublist.refl _).append jq
  ·exact(List.nil_sublist _).append jq
theorem SR.msk (hs:SR w I L s a) (ts rd:List Nat):SR w I L (Pay.msk s ts rd) a:=by
 have hsub:=jq (rd:=rd) (i:=0) (S:=s.S) (L:=L);refine⟨λt x hx=>hs.env t x (ju hx),hs.nt,by simp[Pay.msk,gP,hs.len],λi o l h1 h2=>?_,hsub.nodup hs.nodup,λb hb=>hs.sep b (hsub.subset hb),hs.imm,hs.defers⟩
 simp only[Pay.msk,eD,Option.map_eq_some_iff,Nat.zero_add] at h1;obtain⟨o',ho',h1⟩:=h1;split at h1
 ·subst h1;exact hs.obs i _ l ho' h2
 ·subst h1;trivial
def jQ (wr:List Nat):Nat->List Ob->List Ob->List Ob
 |_,[],S1=>S1
 |i,o::r,[]=>o::r
 |i,o::r,o1::S1=>(if i∈wr then o1 else o)::jQ wr (i+1) r S1
theorem jP {wr:List Nat}:∀ {i j:Nat} {S S1:List Ob},S.length<=S1.length->(jQ wr i S S1)[j]?=if j<S.length/\¬(i+j∈wr) then S[j]? else S1[j]?
 |i,j,[],S1,_=>by simp[jQ]
 |i,j,o::r,[],h=>by simp at h
 |i,0,o::r,o1::S1,h=>by
  simp only[jQ];by_cases hi:i∈wr<;>simp[hi]
 |i,j+1,o::r,o1::S1,h=>by
  simp only[jQ,List.getElem?_cons_succ,List.length_cons];rw[jP (by simpa using h),Nat.add_assoc,Nat.add_comm 1 j]
  simp
theorem ro {wr:List Nat}:∀ {i:Nat} {S S1:List Ob},S.length<=S1.length->(jQ wr i S S1).length=S1.length
 |_,[],S1,_=>rfl
 |i,o::r,[],h=>by simp at h
 |i,o::r,o1::S1,h=>by simp only[jQ,List.length_cons];rw[ro (by simpa using h)]
theorem bK.frame {ts rd wr:List Nat} (h:bK P o (Pay.msk s ts rd) s1) (hp:s.pin<=s.S.length) (hlen:s.S.length<=s1.S.length) (hnt:s1.nt=s.nt)
 (hkeep:∀i,i<s.S.length->i∉wr->s1.S[i]?=(gu rd 0 s.S)[i]?) {v:FV} (hdst:∀d,o.dst=some d->get s1.env d=some v/\d<s.nt):
 bK P o s ⟨eM o.dst v s.env,jQ wr 0 s.S s1.S,s.nt,s.pin⟩:=λw I L a hs=>by
 obtain⟨r,w',I',L',u,hr,hv,h1,h2⟩:=h w I L a (hs.msk ts rd);have hsub1:=jq (rd:=rd) (i:=0) (S:=s.S) (L:=L);have hI:∀b,I b->w'.heap[b]?=w.heap[b]?:=λb hb=>h2.evo.keep b (hs.imm b hb) λh'=>(hs.sep b (hsub1.subset h')).1 hb
 have hLe:∀i:Nat,i<s.S.length->L'[i]?=L[i]?:=h2.lay
 have hL:∀(i:Nat) (l:Lay),L[i]?=some l->L'[i]?=some l:=λi l hl=>(hLe i (by rw[<-hs.len];exact(List.getElem?_eq_some_iff.1 hl).1)).trans hl
 have hfar:∀(i:Nat) (ob:Ob) (l:Lay),s.S[i]?=some ob->L[i]?=some l->i∉rd->∀b∈own ob l,b∉aB (gu rd 0 s.S) L:=by
  intro i ob l e1 e2 hi b hb hb';obtain⟨j,o',l',q1,q2,q3⟩:=aZ hb';rw[eD,Option.map_eq_some_iff,Nat.zero_add] at q1;obtain⟨o'',q4,q5⟩:=q1;split at q5
  ·rename_i hj;subst q5;exact aR hs.nodup e1 e2 q4 q2 (λe=>hi (e▸hj)) b hb q3
  ·subst q5;simp[own] at q3
 have hback:∀(i:Nat) (ob:Ob),(jQ wr 0 s.S s1.S)[i]?=some ob->(i∉rd/\s.S[i]?=some ob)\/s1.S[i]?=some ob:=by
  intro i ob hi;rw[jP hlen,Nat.zero_add] at hi;split at hi
  ·rename_i hc;by_cases hrd:i∈rd
   ·right
    rw[hkeep i hc.1 hc.2,eD,Nat.zero_add,hi];simp[hrd]
   ·exact .inl ⟨hrd,hi⟩
  ·exact .inr hi
 have hnew:∀b∈aB s1.S L',b∈aB (gu rd 0 s.S) L\/w.heap.size<=b:=h2.evo.own
 have hlenL:L'.length=s1.S.length:=h1.len;have hcase:∀(i:Nat) (ob:Ob) (l:Lay),(jQ wr 0 s.S s1.S)[i]?=some ob->L'[i]?=some l->(i∉rd/\s.S[i]?=some ob/\L[i]?=some l)\/s1.S[i]?=some ob:=by
  intro i ob l e1 e2;rcases hback i ob e1 with⟨q1,q2⟩|q
  ·exact .inl ⟨q1,q2,by rw[<-hLe i (List.getElem?_eq_some_iff.1 q2).1];exact e2⟩
  ·exact .inr q
 have hfar2:∀(i:Nat) (ob:Ob) (l:Lay),i∉rd->s.S[i]?=some ob->L[i]?=some l->∀b∈own ob l,b<w.heap.size/\b∉aB s1.S L':=by
  intro i ob l q1 q2 q3 b hb;have hlt:=(hs.sep b (aw q2 q3 b hb)).2;refine⟨hlt,λh'=>?_⟩
  rcases hnew b h' with h'|h'
  ·exact hfar i ob l q2 q3 q1 b hb h'
  ·omega
 refine⟨r,w',I',L',u,hr,hv,⟨λt x hx=>?_,?_,?_,λi ob l e1 e2=>?_,?_,λb hb=>?_,h1.imm,h1.defers⟩,⟨⟨h2.evo.os,h2.evo.tape,h2.evo.output,h2.evo.size,λb hb hA=>?_,h2.evo.imm,λb hb=>?_,λb hb=>?_⟩,rfl,λi hi=>hLe i (Nat.lt_of_lt_of_le hi hp)⟩⟩
 ·cases hd:o.dst with
  |none=>
   simp only[Act.put];simp only[hd,eM] at hx;exact ai.mono hI h2.evo.imm hL _ _ (hs.env t x hx)
  |some d=>
   simp only[hd,eM,get] at hx;by_cases hdt:d=t
   ·rw[if_pos hdt] at hx;cases hx;subst hdt;have:=h1.env d v (hdst d hd).1
    rwa [hd] at this
   ·rw[if_neg hdt] at hx;have h0:=ai.mono hI h2.evo.imm hL _ _ (hs.env t x hx);simp only[Act.put,Array.getD_eq_getD_getElem?,Array.getElem?_setIfInBounds,if_neg hdt];simpa only[Array.getD_eq_getD_getElem?] using h0
 ·exact h1.nt.trans hnt
 ·show L'.length=(jQ wr 0 s.S s1.S).length
  rw[ro hlen];exact hlenL
 ·rcases hcase i ob l e1 e2 with⟨q1,q2,q3⟩|q
  ·refine b7.mono hI h2.evo.imm hL (λb hb=>?_) (hs.obs i ob l q2 q3)
   exact h2.evo.keep b (hfar2 i ob l q1 q2 q3 b hb).1 (hfar i ob l q2 q3 q1 b hb)
  ·exact h1.obs i ob l q e2
 ·refine cY λi j o1 o2 l1 l2 hij e1 e2 e3 e4 b hb hb'=>?_
  rcases hcase i o1 l1 e1 e2 with⟨q1,q2,q3⟩|q<;>rcases hcase j o2 l2 e3 e4 with⟨r1,r2,r3⟩|r'
  ·exact aR hs.nodup q2 q3 r2 r3 hij b hb hb'
  ·exact(hfar2 i o1 l1 q1 q2 q3 b hb).2 (aw r' e4 b hb')
  ·exact(hfar2 j o2 l2 r1 r2 r3 b hb').2 (aw q e2 b hb)
  ·exact aR h1.nodup q e2 r' e4 hij b hb hb'
 ·obtain⟨i,ob,l,e1,e2,e3⟩:=aZ hb;rcases hcase i ob l e1 e2 with⟨q1,q2,q3⟩|q
  ·obtain⟨g1,g2⟩:=hs.sep b (aw q2 q3 b e3);refine⟨λhb'=>?_,Nat.lt_of_lt_of_le g2 h2.evo.size⟩
   rcases h2.evo.immNew b hb' with h'|h'|h'
   ·exact g1 h'
   ·exact hfar i ob l q2 q3 q1 b e3 h'
   ·omega
  ·exact h1.sep b (aw q e2 b e3)
 ·exact h2.evo.keep b hb λh'=>hA (hsub1.subset h')
 ·rcases h2.evo.immNew b hb with h'|h'|h'
  ·exact .inl h'
  ·exact .inr (.inl (hsub1.subset h'))
  ·exact .inr (.inr h')
 ·obtain⟨i,ob,l,e1,e2,e3⟩:=aZ hb;rcases hcase i ob l e1 e2 with⟨q1,q2,q3⟩|q
  ·exact .inl (aw q2 q3 b e3)
  ·rcases hnew b (aw q e2 b e3) with h'|h'
   ·exact .inl (hsub1.subset h')
   ·exact .inr h'
def bp:Option FV->List Nat
 |some (.ref id _)=>[id]
 |some (.er id _ _ _)=>[id]
 |some (.sl id _)=>[id]
 |some (.so id _ _ _)=>[id]
 |some (.sc id _ _)=>[id]
 |some (.mp id)=>[id]
 |_=>[]
def bF (s:St):Op->List Nat
 | .store _ p _=>bp (evX s p)
 | .mapUpdate _ m _ _=>bp (evX s m)
 | .call {callee:= .builtin .append,args,..}=>(match args.toList with|x::_=>bp (evX s x)|[]=>[])
 | .call {callee:= .builtin .copy,args,..}=>(match args.toList with|x::_=>bp (evX s x)|[]=>[])
 |_=>[]
theorem dq {s0:St} {dst:Option Nat} {x:FV} (h:aY s0 dst x=some s1):s1.S=s0.S/\s1.nt=s0.nt/\s1.pin=s0.pin/\(∀d,dst=some d->get s1.env d=some x/\d<s0.nt):=by
 unfold aY at h;cases dst with
 |none=>cases h;exact⟨rfl,rfl,rfl,λd hd=>by cases hd⟩
 |some d=>
  simp only at h;split at h
  ·rename_i hd;cases h;exact⟨rfl,rfl,rfl,λd' hd'=>by cases hd';exact⟨by simp[get],hd⟩⟩
  ·cases h
structure gp (o:Oper) (s s1:St):Prop where
 nt:s1.nt=s.nt
 len:s1.S.length=s.S.length\/s1.S.length=s.S.length+1
 keep:∀i,i<s.S.length->i∉bF s o.op->s1.S[i]?=s.S[i]?
 dst:∀d,o.dst=some d->(∃v,get s1.env d=some v)/\d<s.nt
theorem gp.same {x:FV} (h:aY s o.dst x=some s1):gp o s s1:=by
 obtain⟨h1,h2,_,h4⟩:=dq h;exact⟨h2,.inl (by rw[h1]),λi _ _=>by rw[h1],λd hd=>⟨⟨x,(h4 d hd).1⟩,(h4 d hd).2⟩⟩
theorem gp.more {x:FV} {ob:Ob} (h:aY {s with S:=s.S++[ob]} o.dst x=some s1):gp o s s1:=by
 obtain⟨h1,h2,_,h4⟩:=dq h;exact⟨h2,.inr (by rw[h1];simp),λi hi _=>by rw[h1];exact List.getElem?_append_left hi,λd hd=>⟨⟨x,(h4 d hd).1⟩,(h4 d hd).2⟩⟩
theorem xF {t:TypeId} {m k x:FV} {S':List Ob} (h:uY T s t m k x=some S'):S'.length=s.S.length/\∀i,i∉bp (some m)->S'[i]?=s.S[i]?:=by
 unfold uY at h;simp only[Option.bind_eq_some_iff] at h;obtain⟨i,_,h⟩:=h;split at h
 ·simp only[Option.bind_eq_some_iff] at h;obtain⟨ki,_,h⟩:=h;split at h
  ·simp only[Option.bind_eq_some_iff,Option.map_eq_some_iff] at h;obtain⟨⟨id,ks,es⟩,hO,r,_,rfl⟩:=h;refine⟨by simp,λj hj=>?_⟩
   unfold Bs at hO;split at hO
   ·split at hO
    ·cases hO;exact List.getElem?_set_ne (by simp[bp] at hj;omega)
    ·cases hO
   ·cases hO
  ·cases h
 ·cases h
theorem n6 {t:TypeId} {p x:FV} {S':List Ob} (h:kP T s t p x=some S'):S'.length=s.S.length/\∀i,i∉bp (some p)->S'[i]?=s.S[i]?:=by
 unfold kP at h;simp only[Option.bind_eq_some_iff] at h;obtain⟨i,_,h⟩:=h;split at h
 ·split at h
  ·split at h
   ·split at h
    ·cases h;exact⟨by simp,λj hj=>List.getElem?_set_ne (by simp[bp] at hj;omega)⟩
    ·cases h
   ·cases h
  ·split at h
   ·split at h
    ·simp only[Option.bind_eq_some_iff] at h;obtain⟨y,_,ds,_,h⟩:=h;split at h
     ·split at h
      ·cases h;exact⟨by simp,λj hj=>List.getElem?_set_ne (by simp[bp] at hj;omega)⟩
      ·cases h
     ·split at h
      ·split at h
       ·split at h
        ·cases h
        ·cases h;exact⟨by simp,λj hj=>List.getElem?_set_ne (by simp[bp] at hj;omega)⟩
       ·cases h
      ·cases h
    ·cases h
   ·cases h
  ·cases h
 ·cases h
theorem xN {t u:TypeId} {x y:FV} {p:List Ob×Nat} (h:u4 T s t u x y=some p):p.1.length=s.S.length+1/\∀i,i<s.S.length->i∉bp (some x)->p.1[i]?=s.S[i]?:=by
 unfold u4 at h;simp only[Option.bind_eq_some_iff] at h;obtain⟨i,_,j,_,h⟩:=h;split at h
 ·simp only[Option.bind_eq_some_iff] at h;obtain⟨ei,_,h⟩:=h;split at h
  ·split at h
   ·split at h
    ·cases h;exact⟨by simp,λk hk hn=>by rw[List.getElem?_append_left hk]⟩
    ·cases h
   ·cases h
  ·cases h
 ·simp only[Option.bind_eq_some_iff] at h;obtain⟨ei,_,ys,_,h⟩:=h;split at h
  ·split at h
   ·split at h
    ·cases h;exact⟨by simp,λk hk hn=>by rw[List.getElem?_append_left (by simpa using hk)];exact List.getElem?_set_ne (by simp[bp] at hn;omega)⟩
    ·cases h
   ·cases h
  ·split at h
   ·cases h;exact⟨by simp,λk hk hn=>by rw[List.getElem?_append_left hk]⟩
   ·cases h
  ·cases h
 ·cases h
theorem qG (h:ky T o s=some s1):gp o s s1:=by
 unfold ky at h;split at h
 ·simp only[Option.bind_eq_some_iff] at h;obtain⟨i,hi,h⟩:=h;split at h
  ·exact gp.more h
  ·cases h
 ·simp only[Option.bind_eq_some_iff] at h;obtain⟨i,hi,h⟩:=h;split at h
  ·exact gp.more h
  ·cases h
 ·rename_i t p x ho;simp only[Option.bind_eq_some_iff] at h;obtain⟨vp,hp,vx,hx,S',hS,h⟩:=h;obtain⟨h1,h2,_,h4⟩:=dq h;obtain⟨q1,q2⟩:=n6 hS;exact⟨h2,.inl (by rw[h1];exact q1),λi hi hn=>by rw[h1];exact q2 i (by simpa[bF,ho,hp] using hn),λd hd=>⟨⟨_,(h4 d hd).1⟩,(h4 d hd).2⟩⟩
 ·simp only[Option.bind_eq_some_iff] at h;obtain⟨i,hi,h⟩:=h;split at h
  ·simp only[Option.bind_eq_some_iff] at h;obtain⟨ei,hei,h⟩:=h;split at h
   ·split at h
    ·exact gp.more h
    ·cases h
   ·cases h
  ·cases h
 ·simp only[Option.bind_eq_some_iff] at h;obtain⟨i,hi,h⟩:=h;split at h
  ·simp only[Option.bind_eq_some_iff] at h;obtain⟨ei,hei,xs,hxs,h⟩:=h;split at h
   ·exact gp.more h
   ·cases h
  ·cases h
 ·simp only[Option.bind_eq_some_iff] at h;obtain⟨v,hv,h⟩:=h;exact gp.same h
 ·split at h
  ·exact gp.more h
  ·cases h
 ·rename_i t m k x ho;simp only[Option.bind_eq_some_iff] at h;obtain⟨vm,hm,vk,hk,vx,hx,S',hS,h⟩:=h;obtain⟨h1,h2,_,h4⟩:=dq h;obtain⟨q1,q2⟩:=xF hS;exact⟨h2,.inl (by rw[h1];exact q1),λi hi hn=>by rw[h1];exact q2 i (by simpa[bF,ho,hm] using hn),λd hd=>⟨⟨_,(h4 d hd).1⟩,(h4 d hd).2⟩⟩
 ·rename_i args ts ho;split at h
  ·rename_i sx yx t u e1 e2;simp only[Option.bind_eq_some_iff] at h;obtain⟨vx,hx,vy,hy,p,hp,h⟩:=h;split at h
   ·obtain⟨h1,h2,_,h4⟩:=dq h;obtain⟨q1,q3⟩:=xN hp;exact⟨h2,.inr (by rw[h1];exact q1),λi hi hn=>by rw[h1];exact q3 i hi (by simpa[bF,ho,e1,hx] using hn),λd hd=>⟨⟨_,(h4 d hd).1⟩,(h4 d hd).2⟩⟩
   ·cases h
  ·cases h
 ·rename_i args ts ho;split at h
  ·rename_i dx yx t u e1 e2;simp only[Option.bind_eq_some_iff] at h;obtain⟨vx,hx,vy,hy,p,hp,h⟩:=h;obtain⟨h1,h2,_,h4⟩:=dq h;obtain⟨q1,q3⟩:=xL hp;exact⟨h2,.inl (by rw[h1];exact q1),λi hi hn=>by rw[h1];exact q3 i (λid k off n hid he=>by subst hid;subst he;exact hn (by simp[bF,ho,e1,hx,bp])),λd hd=>⟨⟨_,(h4 d hd).1⟩,(h4 d hd).2⟩⟩
  ·cases h
 ·simp only[Option.bind_eq_some_iff] at h;obtain⟨x,hx,h⟩:=h;exact gp.same h
end
structure Ev where
 v:FV
 mods:List (Nat×Ob)
def dH:List (Nat×Ob)->Nat->Option Ob
 |[],_=>none
 |(j,o)::r,i=>if j=i then some o else dH r i
def df (m:List (Nat×Ob)):Nat->List Ob->List Ob
 |_,[]=>[]
 |i,o::r=>(dH m i).getD o::df m (i+1) r
def Ev.app (e:Ev) (d:Option Nat) (s:St):St:=⟨eM d e.v s.env,df e.mods 0 s.S,s.nt,s.pin⟩
theorem be {m:List (Nat×Ob)}:∀ {i j:Nat} {S:List Ob},(df m i S)[j]?=(S[j]?).map λo=>(dH m (i+j)).getD o
 |i,j,[]=>by simp[df]
 |_,0,o::r=>by simp[df]
 |i,j+1,o::r=>by simp only[df,List.getElem?_cons_succ];rw[be,Nat.add_assoc,Nat.add_comm 1 j]
theorem dO {m:List (Nat×Ob)}:∀ {i:Nat} {S:List Ob},(df m i S).length=S.length
 |_,[]=>rfl
 |i,o::r=>by simp[df,dO]
def mvN (N nid j:Nat):Nat:=if j=N then nid else j
def iY (s1:St):List Nat->List (Nat×Ob)
 |[]=>[]
 |i::r=>(i,(s1.S[i]?).getD .gone)::iY s1 r
def m8 (d:Option Nat) (N nid:Nat) (wr:List Nat) (s1:St):Ev:=
 ⟨ren (mvN N nid) (xv d s1.env),(match s1.S[N]? with|none=>[]|some ob=>[(nid,ob)])++iY s1 wr⟩
mutual
theorem gJ {σ:Nat->Nat}:∀ {x:FV},(∀j∈bG x,σ j=j)->ren σ x=x
 | .d x,_=>rfl
 | .ref id off,h=>by simp[ren,h id (by simp[bG])]
 | .sl id n,h=>by simp[ren,h id (by simp[bG])]
 | .er id k i off,h=>by simp[ren,h id (by simp[bG])]
 | .dp cs,_=>rfl
 | .agg cs,h=>by simp only[ren];rw[jh (xs:=cs) λj hj=>h j (by simpa[bG] using hj)]
 | .fn f cs,h=>by simp only[ren];rw[jh (xs:=cs) λj hj=>h j (by simpa[bG] using hj)]
 | .tup cs,h=>by simp only[ren];rw[jh (xs:=cs) λj hj=>h j (by simpa[bG] using hj)]
 | .mp id,h=>by simp[ren,h id (by simp[bG])]
 | .so id _ _ _,h=>by simp[ren,h id (by simp[bG])]
 | .sc id _ _,h=>by simp[ren,h id (by simp[bG])]
 | .dead,_=>rfl
theorem jh {σ:Nat->Nat}:∀ {xs:List FV},(∀j∈ed xs,σ j=j)->eL σ xs=xs
 |[],_=>rfl
 |x::r,h=>by simp only[eL];rw[gJ (x:=x) λj hj=>h j (by simp[ed,hj]),jh (xs:=r) λj hj=>h j (by simp[ed,hj])]
end
mutual
theorem sN {σ τ:Nat->Nat}:∀ {x:FV},ren σ (ren τ x)=ren (λj=>σ (τ j)) x
 | .d x=>rfl
 | .ref id off=>rfl
 | .sl id n=>rfl
 | .er id k i off=>rfl
 | .dp cs=>rfl
 | .agg cs=>by simp only[ren];rw[fI]
 | .fn f cs=>by simp only[ren];rw[fI]
 | .tup cs=>by simp only[ren];rw[fI]
 | .mp id=>rfl
 | .so _ _ _ _=>rfl
 | .sc _ _ _=>rfl
 | .dead=>rfl
theorem fI {σ τ:Nat->Nat}:∀ {xs:List FV},eL σ (eL τ xs)=eL (λj=>σ (τ j)) xs
 |[]=>rfl
 |x::r=>by simp only[eL];rw[sN,fI]
end
theorem ik {σ:Nat->Nat} {ob:Ob} (h:∀j∈gq ob,σ j=j):cC σ ob=ob:=by
 cases ob<;>simp only[cC];rw[jh h]
mutual
theorem ai.lt {w:World} {I:Nat->Prop} {L:List Lay}:∀ {x:FV} {v:Value},ai w I L x v->∀j∈bG x,j<L.length
 | .d x,v,h,j,hj=>by simp[bG] at hj
 | .ref id off,v,h,j,hj=>by simp only[ai] at h;obtain⟨b,h1,_⟩:=h;simp[bG] at hj;subst hj;exact(List.getElem?_eq_some_iff.1 h1).1
 | .sl id n,v,h,j,hj=>by simp only[ai] at h;obtain⟨l,hd,cap,h1,_⟩:=h;simp[bG] at hj;subst hj;exact(List.getElem?_eq_some_iff.1 h1).1
 | .er id k i off,v,h,j,hj=>by simp only[ai] at h;obtain⟨b,cap,h1,_⟩:=h;simp[bG] at hj;subst hj;exact(List.getElem?_eq_some_iff.1 h1).1
 | .dp cs,v,h,j,hj=>by simp[bG] at hj
 | .agg cs,v,h,j,hj=>by simp only[ai] at h;obtain⟨vs,_,_,h1⟩:=h;exact ap.lt h1 j (by simpa[bG] using hj)
 | .fn f cs,v,h,j,hj=>by simp only[ai] at h;obtain⟨vs,_,h1⟩:=h;exact ap.lt h1 j (by simpa[bG] using hj)
 | .tup cs,v,h,j,hj=>by simp only[ai] at h;obtain⟨vs,_,h1⟩:=h;exact ap.lt h1 j (by simpa[bG] using hj)
 | .mp id,v,h,j,hj=>by simp only[ai] at h;obtain⟨r,h1,_⟩:=h;simp[bG] at hj;subst hj;exact(List.getElem?_eq_some_iff.1 h1).1
 | .so id k off n,v,h,j,hj=>by simp only[ai] at h;obtain⟨l,hd,c,h1,_⟩:=h;simp[bG] at hj;subst hj;exact(List.getElem?_eq_some_iff.1 h1).1
 | .sc id n c,v,h,j,hj=>by simp only[ai] at h;obtain⟨l,hd,h1,_⟩:=h;simp[bG] at hj;subst hj;exact(List.getElem?_eq_some_iff.1 h1).1
 | .dead,v,h,j,hj=>by simp[bG] at hj
theorem ap.lt {w:World} {I:Nat->Prop} {L:List Lay}:∀ {xs:List FV} {vs:List Value},ap w I L xs vs->∀j∈ed xs,j<L.length
 |[],vs,h,j,hj=>by simp[ed] at hj
 |x::r,vs,h,j,hj=>by
  simp only[ap] at h;obtain⟨v,u,_,h1,h2⟩:=h;simp only[ed,List.mem_append] at hj;rcases hj with hj|hj
  ·exact ai.lt h1 j hj
  ·exact ap.lt h2 j hj
end
structure t8 (nid:Nat) (s:St):Prop where
 gone:s.S[nid]?=some .gone
 pin:s.pin<=nid
 env:∀t x,get s.env t=some x->nid∉bG x
 obs:∀(i:Nat) (ob:Ob),s.S[i]?=some ob->nid∉gq ob
section
variable {P:Program} {T:Nat->Option TI} {w w':World} {I I':Nat->Prop} {L L':List Lay} {s s' s1 s2:St} {a:Act} {all ops:Array Oper} {o:Oper} {rest:List Oper} {Q:Exit->St->Prop} {c:Code} {md:Region.Mode}
theorem SR.ids (hs:SR w I L s a):(∀t x,get s.env t=some x->∀j∈bG x,j<s.S.length)/\∀(i:Nat) (ob:Ob),s.S[i]?=some ob->∀j∈gq ob,j<s.S.length:=by
 refine⟨λt x hx j hj=>hs.len▸(hs.env t x hx).lt j hj,λi ob hi j hj=>?_⟩
 have hlt:=(List.getElem?_eq_some_iff.1 hi).1;have hl:L[i]?=some (L[i]'(by rw[hs.len];exact hlt)):=List.getElem?_eq_getElem (by rw[hs.len];exact hlt)
 have h:=hs.obs i ob _ hi hl;cases ob<;>simp only[gq,List.not_mem_nil] at hj;obtain⟨b,vs,_,_,_,h1⟩:=h;exact hs.len▸h1.lt j hj
theorem nJ {σ τ:Nat->Nat} {ob:Ob}:cC σ (cC τ ob)=cC (λj=>σ (τ j)) ob:=by
 cases ob<;>simp only[cC];rw[fI]
theorem Gh.fill2 {d:Option Nat} {env:List (Nat×FV)} {S S2:List Ob} {nt pin nid:Nat} {v:FV} {ob:Ob} (hlt:nid<S.length) (hp:pin<=nid) (he:∀t x,get env t=some x->∀j∈bG x,j<S.length/\j≠nid) (hl:S2.length=S.length)
 (hS:∀σ:Nat->Nat,(∀j,j<S.length->j≠nid->σ j=j)->σ nid=S.length->∀(i:Nat) (x:Ob),S2[i]?=some x->(S++[ob])[if i=nid then S.length else i]?=some (cC σ x)) (hv:∀j∈bG v,j<=S.length/\j≠nid):
 Gh ⟨eM d v env,S++[ob],nt,pin⟩ ⟨eM d (ren (mvN S.length nid) v) env,S2,nt,pin⟩:=by
 have hσ:∀j,j<S.length->j≠nid->σ0 (S++[ob]).length ((List.range S.length).set nid S.length) j=j:=by
  intro j hj hn;simp[σ0,List.getD,List.getElem?_set_ne (Ne.symm hn),List.getElem?_range hj]
 have hσn:σ0 (S++[ob]).length ((List.range S.length).set nid S.length) nid=S.length:=by
  simp[σ0,List.getD,List.getElem?_set_self (show nid<(List.range S.length).length by simpa using hlt)]
 refine Gh.renum (s:=⟨_,S++[ob],nt,pin⟩) ((List.range S.length).set nid S.length) ?_ ?_ ?_ ⟨by simp[hl],?_⟩ ?_
 ·unfold List.Nodup;rw[List.pairwise_iff_getElem];intro i j hi hj hij;simp at hi hj;rw[List.getElem_set,List.getElem_set,List.getElem_range,List.getElem_range];split<;>split<;>omega
 ·intro i hi;rcases List.mem_or_eq_of_mem_set hi with h|h
  ·simp at h ⊢;omega
  ·subst h;simp
 ·intro t x hx;have keep:get env t=some x->get env t=some (ren (σ0 (S++[ob]).length ((List.range S.length).set nid S.length)) x):=λh=>by
   rw[gJ λj hj=>hσ j (he t x h j hj).1 (he t x h j hj).2];exact h
  cases d with
  |none=>exact keep hx
  |some d=>
   simp only[eM,get] at hx ⊢;by_cases hd:d=t
   ·rw[if_pos hd] at hx ⊢;cases hx;rw[sN,gJ λj hj=>?_]
    obtain⟨g1,g2⟩:=hv j hj;unfold mvN;split
    ·rename_i hj';rw[hσn,hj']
    ·exact hσ j (by omega) g2
   ·rw[if_neg hd] at hx ⊢;exact keep hx
 ·intro j i c hj hc;have hc':S2[j]?=some c:=hc;have hjl:j<S.length:=hl▸(List.getElem?_eq_some_iff.1 hc').1;have hi:i=if j=nid then S.length else j:=by
   by_cases hn:nid=j
   ·subst hn;rw[List.getElem?_set_self (by simpa using hlt)] at hj
    cases hj;rw[if_pos rfl]
   ·rw[List.getElem?_set_ne hn,List.getElem?_range hjl] at hj;cases hj;rw[if_neg (Ne.symm hn)]
  subst hi;exact hS _ hσ hσn j c hc'
 ·intro i hi;have hi':i<pin:=hi;rw[List.getElem?_set_ne (by omega),List.getElem?_range (by omega)]
theorem Gh.fill {d:Option Nat} {env:List (Nat×FV)} {S:List Ob} {nt pin nid:Nat} {v:FV} {ob:Ob} (hg:S[nid]?=some .gone) (hp:pin<=nid) (he:∀t x,get env t=some x->∀j∈bG x,j<S.length/\j≠nid)
 (hS:∀(i:Nat) (ob:Ob),S[i]?=some ob->∀j∈gq ob,j<S.length/\j≠nid) (hv:∀j∈bG v,j<=S.length/\j≠nid) (ho:∀j∈gq ob,j<S.length/\j≠nid):
 Gh ⟨eM d v env,S++[ob],nt,pin⟩ ⟨eM d (ren (mvN S.length nid) v) env,S.set nid ob,nt,pin⟩:=by
 have hlt:nid<S.length:=(List.getElem?_eq_some_iff.1 hg).1;refine Gh.fill2 hlt hp he (by simp) (λσ hσ _ i x hx=>?_) hv
 by_cases hn:i=nid
 ·subst hn;rw[List.getElem?_set_self hlt] at hx;cases hx;rw[if_pos rfl,ik λk hk=>hσ k (ho k hk).1 (ho k hk).2]
  simp
 ·rw[List.getElem?_set_ne (Ne.symm hn)] at hx;rw[if_neg hn,List.getElem?_append_left (List.getElem?_eq_some_iff.1 hx).1,hx,ik λk hk=>hσ k (hS i x hx k hk).1 (hS i x hx k hk).2]
end
end Go.Proofs.YtlhmejigmokbhaaGreatDoor.Pay
