/- The texts PayK, PayL, one behind the other. No statement of the seed is proved here. -/
import Derived.Test.YtlhmejigmokbhaaGreatDoorMgG
namespace Go.Proofs.YtlhmejigmokbhaaGreatDoor.Pay
open Go Go.RowKit
set_option linter.unusedVariables false
set_option linter.unusedSimpArgs false
def WpF (P:Program) (f:FuncId) (args:List FV) (S:List Ob) (Q:FV->List Ob->Prop):Prop:=
 ∀w I L vs,ap w I L args vs->OR w I L S->Calls P f vs.toArray w λ_e _w'=>∃r v S' I' L',_e= .returned v/\Q r S'/\ai _w' I' L' r v/\OR _w' I' L' S'/\
  Evo w I (aB S L) _w' I' (aB S' L')/\S.length<=S'.length/\∀i:Nat,i<S.length->L'[i]?=L[i]?
theorem WpF.mono {P:Program} {f:FuncId} {args:List FV} {S:List Ob} {Q Q':FV->List Ob->Prop} (h:WpF P f args S Q) (hq:∀r S,Q r S->Q' r S):WpF P f args S Q':=
 λw I L vs h1 h2=>(h w I L vs h1 h2).mono λ_ _ ⟨r,v,S',I',L',e1,q,rest⟩=>⟨r,v,S',I',L',e1,hq _ _ q,rest⟩
theorem io:∀(q:Nat) (l:List Lay),aB (List.replicate q .gone) l=[]
 |0,l=>by simp[aB]
 |q+1,[]=>by simp[List.replicate_succ,aB]
 |q+1,x::l=>by simp only[List.replicate_succ,aB,own,List.nil_append];exact io q l
theorem WpF.row {P:Program} {f:FuncId} {args:List FV} {S:List Ob} {e k n:Nat} {xs:List D} (h:WpF P f args S (λr S'=>∃j,r= .sl j n/\S'[j]?=some (.arr e k xs))) (m:Nat) (hm:S.length=m:=by rfl):
 WpF P f args S (λr S'=>r= .sl m n/\S'=List.replicate m .gone++[.arr e k xs]):=λw I L vs h1 h2=>(h w I L vs h1 h2).mono λex w' ⟨r,v,S',I',L',e1,⟨j,hr,hj⟩,hv,ho,he,hlen,hL⟩=>by
 subst hr;subst hm;simp only[ai] at hv;obtain⟨l,hd,cap,hl,hh,rfl⟩:=hv;have hlen':(L'.take S.length).length=S.length:=by rw[List.length_take,ho.len];omega
 have hown:aB (List.replicate S.length .gone++[.arr e k xs]) (L'.take S.length++[l])=own (.arr e k xs) l:=by
  rw[b8 _ _ _ _ (by simp[hlen']),io,List.nil_append]
 have hsub:∀b∈own (.arr e k xs) l,b∈aB S' L':=λb hb=>aw hj hl b hb
 refine⟨.sl S.length n,_,_,I',L'.take S.length++[l],e1,⟨rfl,rfl⟩,?_,⟨by simp[hlen'],?_,?_,?_,ho.imm⟩,⟨he.os,he.tape,he.output,he.size,he.keep,he.imm,he.immNew,?_⟩,by simp,?_⟩
 ·simp only[ai];exact⟨l,hd,cap,by rw[List.getElem?_append_right (by omega),hlen'];simp,hh,rfl⟩
 ·intro i o l' q1 q2;by_cases hi:i<S.length
  ·rw[List.getElem?_append_left (by simpa using hi),List.getElem?_replicate,if_pos hi] at q1
   cases q1;trivial
  ·rw[List.getElem?_append_right (by simp;omega)] at q1
   rw[List.getElem?_append_right (by omega),hlen'] at q2
   simp only[List.length_replicate] at q1;have hz:i-S.length=0:=by have:=(List.getElem?_eq_some_iff.1 q1).1;simp at this;omega
   rw[hz] at q1 q2;simp at q1 q2;subst q1;subst q2;rcases ho.obs _ _ _ hj hl with⟨b,c,us,rfl,q⟩|q
   ·exact .inl ⟨b,c,us,rfl,q⟩
   ·exact .inr q
 ·rw[hown];exact dE _ _
 ·rw[hown];exact λb hb=>ho.sep b (hsub b hb)
 ·rw[hown];exact λb hb=>he.own b (hsub b hb)
 ·intro i hi;rw[List.getElem?_append_left (by omega),List.getElem?_take,if_pos hi]
  exact hL i hi
def dK:Nat->List FV->List (Nat×FV)
 |_,[]=>[]
 |n,x::r=>(n,x)::dK (n+1) r
def oH (T:Nat->Option TI) (s:St):ResultVar->Option FV
 | .tmp t=>get s.env t
 | .cell d t=>(get s.env d).bind (uZ T s t)
def ft (T:Nat->Option TI) (s:St):List ResultVar->Option (List FV)
 |[]=>some []
 |r::rs=>(oH T s r).bind λx=>(ft T s rs).map (x:: ·)
def fK:List FV->FV
 |[x]=>x
 |xs=> .tup xs
def G7 (T:Nat->Option TI) (res:List ResultVar) (pin:Nat) (Q:FV->List Ob->Prop) (e:Exit) (s:St):Prop:=
 (e= .normal\/e= .ret)/\∃xs,ft T s res=some xs/\Q (fK xs) s.S/\pin<=s.S.length
section
variable {P:Program} {T:Nat->Option TI} {w w':World} {I I':Nat->Prop} {L L':List Lay} {s s':St} {a:Act} {all:Array Oper} {o:Oper} {rest:List Oper} {Q:Exit->St->Prop}
theorem gX:∀ {xs:List FV} {n t:Nat} {x:FV},get (dK n xs) t=some x->∃i,t=n+i/\xs[i]?=some x
 |[],n,t,x,h=>by simp[dK,get] at h
 |y::xs,n,t,x,h=>by
  simp only[dK,get] at h;by_cases hn:n=t
  ·rw[if_pos hn] at h;cases h;exact⟨0,by omega,rfl⟩
  ·rw[if_neg hn] at h;obtain⟨i,h1,h2⟩:=gX h;exact⟨i+1,by omega,by simpa using h2⟩
theorem uw (hT:aP P T) (hs:SR w I L s a) {r:ResultVar} {x:FV} (h:oH T s r=some x):
 ∃v,(match r with| .tmp t=>pure (a.tmps.getD t undef)| .cell d t=>do loadVar t (<-asAddr (a.tmps.getD d undef)):Sem Value).run P w= .ok v w/\ai w I L x v:=by
 cases r with
 |tmp t=>exact⟨_,rfl,hs.env t x h⟩
 |cell d t=>
  simp only[oH,Option.bind_eq_some_iff] at h;obtain⟨p,hp,hx⟩:=h;have h1:=hs.env d p hp;obtain⟨v,hv0,hz⟩:=tu hT hs h1 hx;have hv:=hv0 w λ_ _=>rfl
  refine⟨v,?_,hz⟩;have:∃ad,a.tmps.getD d undef= .pointer (some ad):=by
   cases p with
   |ref id off=>simp only[ai] at h1;obtain⟨b,_,h⟩:=h1;exact⟨_,h⟩
   |er id k i off=>simp only[ai] at h1;obtain⟨b,c,_,h⟩:=h1;exact⟨_,h⟩
   |dp cs=>simp only[ai] at h1;obtain⟨b,o,vs,h,_⟩:=h1;exact⟨_,h⟩
   |_=>simp[uZ] at hx
  obtain⟨ad,had⟩:=this;rw[had] at hv;simp only[had,asAddr,Sem.run_bind,Sem.run_pure,Result.andThen_ok];simpa only[Instr.loadAt,Instr.sureAddr,Sem.run_bind,Sem.run_pure,Result.andThen_ok] using hv
theorem nH (hT:aP P T) (hs:SR w I L s a):∀ {rs:List ResultVar} {xs:List FV},ft T s rs=some xs->
 ∃vs,(rs.mapM λr=>(match r with| .tmp t=>pure (a.tmps.getD t undef)| .cell d t=>do loadVar t (<-asAddr (a.tmps.getD d undef)):Sem Value)).run P w= .ok vs w/\ap w I L xs vs
 |[],xs,h=>by simp[ft] at h;subst h;exact⟨[],rfl,by simp[ap]⟩
 |r::rs,xs,h=>by
  simp only[ft,Option.bind_eq_some_iff,Option.map_eq_some_iff] at h;obtain⟨x,hx,ys,hy,rfl⟩:=h;obtain⟨v,hv,hz⟩:=uw hT hs hx;obtain⟨vs,hvs,hzs⟩:=nH hT hs hy;refine⟨v::vs,?_,by simp only[ap];exact⟨v,vs,rfl,hz,hzs⟩⟩
  rw[List.mapM_cons,Sem.run_bind,hv];simp only[Sem.run_bind,Sem.run_pure,Result.andThen_ok,hvs]
theorem kI (hT:aP P T) (hs:SR w I L s a) {fn:Func} {xs:List FV} (h:ft T s fn.results.toList=some xs):∃v,(results fn a.tmps).run P w= .ok v w/\ai w I L (fK xs) v:=by
 obtain⟨vs,hvs,hz⟩:=nH hT hs h;have hr:(results fn a.tmps).run P w= .ok (if h:vs.toArray.size=1 then vs.toArray[0] else .tuple vs.toArray) w:=by
  unfold results;rw[Array.mapM_eq_mapM_toList];simp only[Sem.run_bind,Sem.run_map,Sem.run_pure];exact congrArg (λr:Result (List Value)=>(r.andThen (λa w'=>Result.ok a.toArray w')).andThen (λa w'=>Result.ok (if h:a.size=1 then a[0] else Value.tuple a) w')) hvs
 refine⟨_,hr,?_⟩;have hl:=hz.length;cases xs with
 |nil=>
  have:vs=[]:=List.eq_nil_of_length_eq_zero (by simpa using hl)
  subst this;simp only[fK,ai];exact⟨[],by simp,hz⟩
 |cons x xs=>
  cases xs with
  |nil=>
   simp only[ap] at hz;obtain⟨v,r,rfl,h1,rfl⟩:=hz;simpa[fK] using h1
  |cons y ys=>
   simp only[fK,ai];refine⟨vs,?_,hz⟩;simp at hl;rw[dif_neg (by simp;omega)]
theorem WpF.enter (hT:aP P T) {f:FuncId} {fn:Func} {c:Code} {args:List FV} {S:List Ob} {Q:FV->List Ob->Prop} (hf:P.funcs[f]?=some fn) (hb:fn.body=some c) (hn:args.length<=fn.ntmps)
 (h:WpC P c ⟨dK 0 args,S,fn.ntmps,S.length⟩ (G7 T fn.results.toList S.length Q)):WpF P f args S Q:=λw I L vs ha hO=>by
 have hvl:=ha.length;have hs:SR w I L ⟨dK 0 args,S,fn.ntmps,S.length⟩ {tmps:=vs.toArray++Array.replicate (fn.ntmps-vs.toArray.size) undef,defers:=[]}:=by
  refine⟨λt x hx=>?_,by simp;omega,hO.len,hO.obs,hO.nodup,hO.sep,hO.imm,rfl⟩
  obtain⟨i,rfl,hi⟩:=gX hx;obtain⟨v,hv,hz⟩:=ha.get i x hi;have hlt:i<vs.length:=(List.getElem?_eq_some_iff.1 hv).1;rw[Nat.zero_add,Array.getD_eq_getD_getElem?,Array.getElem?_append_left (by simpa using hlt)]
  simpa[hv] using hz
 refine calls_of_wp hf hb (wp_mono (h w I L _ hs) λe a' w' p=>?_)
 obtain⟨s',I',L',⟨he,xs,hxs,hq,hpin⟩,hs',⟨st,sp,sl⟩⟩:=p;obtain⟨v,hv,hz⟩:=kI hT hs' hxs;rcases he with rfl|rfl
 ·exact⟨hs'.defers,v,hv,_,v,s'.S,I',L',rfl,hq,hz,hs'.or,st,hpin,sl⟩
 ·exact⟨hs'.defers,v,hv,_,v,s'.S,I',L',rfl,hq,hz,hs'.or,st,hpin,sl⟩
def mF (S:List Ob):FV->Option D
 | .d x=>some x
 | .sl id n=>match S[id]? with
  |some (.frz k xs)=>if n<=xs.length then some (.list k (xs.take n)) else none
  |some (.arr _ k xs)=>if n<=xs.length then some (.list k (xs.take n)) else none
  |_=>none
 |_=>none
def f6 (S:List Ob):List FV->Option (List D)
 |[]=>some []
 |x::r=>(mF S x).bind λy=>(f6 S r).map (y:: ·)
mutual
def aK (lend:Bool) (S:List Ob):FV->Option FV
 | .d x=>some (.d x)
 | .ref id off=>match S[id]? with
  |some (.cells _ cs)=>if lend=true then(f6 S cs).map λds=> .dp (ds.drop off) else none
  |_=>none
 | .sl id n=>match S[id]? with
  |some (.frz k xs)=>if n<=xs.length then some (.d (.list k (xs.take n))) else none
  |some (.arr _ k xs)=>if lend=true/\n<=xs.length then some (.d (.list k (xs.take n))) else none
  |_=>none
 | .mp id=>match S[id]? with
  |some (.fmap ks es)=>some (.d (.map ks es))
  |some (.map ks es)=>if lend=true then some (.d (.map ks es)) else none
  |_=>none
 | .dp cs=>some (.dp cs)
 | .agg cs=>(aI lend S cs).map mkV
 | .fn f cs=>(aI lend S cs).map (.fn f)
 | .tup cs=>(aI lend S cs).map .tup
 |_=>none
def aI (lend:Bool) (S:List Ob):List FV->Option (List FV)
 |[]=>some []
 |x::r=>(aK lend S x).bind λy=>(aI lend S r).map (y:: ·)
end
def gd (I:Nat->Prop) (S:List Ob) (L:List Lay) (b:Nat):Prop:=I b\/b∈aB S L
theorem mr (hs:SR w I L s a) {id k n:Nat} {xs:List D} {v:Value} (hS:s.S[id]?=some (.frz k xs)) (hn:n<=xs.length) (hv:ai w I L (.sl id n) v):ar w I (.list k (xs.take n)) v:=by
 simp only[ai] at hv;obtain⟨l,hd,cap,hl,hh,rfl⟩:=hv;obtain⟨hd',cp,hh',hd1⟩:=hs.obs _ _ _ hS hl;rw[hh] at hh';simp only[Option.some.injEq,Prod.mk.injEq] at hh';obtain⟨rfl,rfl⟩:=hh';simp only[ar] at hd1 ⊢;obtain⟨base,c,he,hle,hx⟩:=hd1;simp only[Value.slice.injEq,true_and] at he;obtain⟨rfl,rfl⟩:=he;have hlen:(xs.take n).length=n:=by rw[List.length_take];omega
 refine⟨hd,cap,by rw[hlen],by omega,?_⟩
 rcases hx with hx|⟨b,o,vs,rfl,hb,hc,hr⟩
 ·exact .inl (by subst hx;simp)
 ·exact .inr ⟨b,o,vs.take (n*k),rfl,hb,bj hc _,hr.take n⟩
theorem mS (hs:SR w I L s a) {id k n:Nat} {e:TypeId} {xs:List D} {v:Value} (hS:s.S[id]?=some (.arr e k xs)) (hn:n<=xs.length) (hv:ai w I L (.sl id n) v):ar w (gd I s.S L) (.list k (xs.take n)) v:=by
 simp only[ai] at hv;obtain⟨l,hd,cap,hl,hh,rfl⟩:=hv;have hcap:=(lY hs hS hl hh).1;have hlen:(xs.take n).length=n:=by rw[List.length_take];omega
 simp only[ar];refine⟨hd,cap,by rw[hlen],by omega,?_⟩
 rcases hs.obs _ _ _ hS hl with⟨base,cp,vs,rfl,hown,hr⟩|⟨hd',rfl,rfl⟩
 ·simp only[Lay.hdr,Option.some.injEq,Prod.mk.injEq] at hh;obtain⟨rfl,rfl⟩:=hh;by_cases h0:0<vs.length
  ·obtain⟨b,rfl,hc⟩:=bS hown h0;exact .inr ⟨b,0,vs.take (n*k),rfl,.inr (aw hS hl b (by simp[own])),bj hc _,ax.mono (λ_ _=>rfl) (λb hb=> .inl hb) _ _ _ (hr.take n)⟩
  ·by_cases hx0:xs.take n=[]
   ·exact .inl hx0
   ·
     cases base with
     |none=>
      rcases hown.2 with⟨_,h2⟩|⟨g,_,_,he,_⟩
      ·exact absurd (by rw[List.eq_nil_of_length_eq_zero h2];simp) hx0
      ·simp[Lay.head] at he
     |some b=>
      have hv0:vs=[]:=List.eq_nil_of_length_eq_zero (by omega)
      subst hv0;exact .inr ⟨b,0,[],rfl,.inr (aw hS hl b (by simp[own])),λj v hv=>by simp at hv,by simpa using ax.mono (λ_ _=>rfl) (λb hb=> .inl hb) _ _ _ (hr.take n)⟩
 ·exact .inl (by simp)
mutual
theorem lJ (hs:SR w I L s a) (L0:List Lay):∀ {x y:FV} {v:Value},ai w I L x v->aK false s.S x=some y->ai w I L0 y v
 | .d x,y,v,hv,h=>by simp[aK] at h;subst h;simpa only[ai] using hv
 | .sl id n,y,v,hv,h=>by
  simp only[aK] at h;split at h
  ·rename_i k xs hS;split at h
   ·rename_i hn;cases h;simp only[ai];exact mr hs hS hn hv
   ·cases h
  ·simp at h
  ·cases h
 | .mp id,y,v,hv,h=>by
  simp only[aK] at h;split at h
  ·rename_i ks es hS;cases h;simp only[ai] at hv;obtain⟨r,hl,rfl⟩:=hv;obtain⟨r',he,hd⟩:=hs.obs _ _ _ hS hl;cases he;simpa only[ai] using hd
  ·simp at h
  ·cases h
 | .dp cs,y,v,hv,h=>by simp[aK] at h;subst h;simpa only[ai] using hv
 | .agg cs,y,v,hv,h=>by
  simp only[aK,Option.map_eq_some_iff] at h;obtain⟨ys,hy,rfl⟩:=h;simp only[ai] at hv;obtain⟨vs,rfl,ho,hr⟩:=hv;exact km (ic hs L0 hr hy) ho
 | .fn f cs,y,v,hv,h=>by
  simp only[aK,Option.map_eq_some_iff] at h;obtain⟨ys,hy,rfl⟩:=h;simp only[ai] at hv ⊢;obtain⟨vs,rfl,hr⟩:=hv;exact⟨vs,rfl,ic hs L0 hr hy⟩
 | .tup cs,y,v,hv,h=>by
  simp only[aK,Option.map_eq_some_iff] at h;obtain⟨ys,hy,rfl⟩:=h;simp only[ai] at hv ⊢;obtain⟨vs,rfl,hr⟩:=hv;exact⟨vs,rfl,ic hs L0 hr hy⟩
 | .ref _ _,y,v,hv,h=>by
  simp only[aK] at h;split at h
  ·simp at h
  ·cases h
 | .er _ _ _ _,y,v,hv,h=>by simp[aK] at h
 | .so _ _ _ _,y,v,hv,h=>by simp[aK] at h
 | .sc _ _ _,y,v,hv,h=>by simp[aK] at h
 | .dead,y,v,hv,h=>by simp[aK] at h
theorem ic (hs:SR w I L s a) (L0:List Lay):∀ {xs ys:List FV} {vs:List Value},ap w I L xs vs->aI false s.S xs=some ys->ap w I L0 ys vs
 |[],ys,vs,hv,h=>by simp[aI] at h;subst h;simpa[ap] using hv
 |x::xs,ys,vs,hv,h=>by
  simp only[aI,Option.bind_eq_some_iff,Option.map_eq_some_iff] at h;obtain⟨y,hy,zs,hz,rfl⟩:=h;simp only[ap] at hv ⊢;obtain⟨v,r,rfl,h1,h2⟩:=hv;exact⟨v,r,rfl,lJ hs L0 h1 hy,ic hs L0 h2 hz⟩
end
theorem xX (hs:SR w I L s a) {x:FV} {y:D} {v:Value} (hv:ai w I L x v) (h:mF s.S x=some y):ar w (gd I s.S L) y v:=by
 unfold mF at h;split at h
 ·cases h;simp only[ai] at hv;exact ar.mono (λ_ _=>rfl) (λb hb=> .inl hb) _ _ hv
 ·split at h
  ·rename_i k xs hS;split at h
   ·rename_i hn;cases h;exact ar.mono (λ_ _=>rfl) (λb hb=> .inl hb) _ _ (mr hs hS hn hv)
   ·cases h
  ·rename_i e k xs hS;split at h
   ·rename_i hn;cases h;exact mS hs hS hn hv
   ·cases h
  ·cases h
 ·cases h
theorem oe (hs:SR w I L s a):∀ {xs:List FV} {ys:List D} {vs:List Value},ap w I L xs vs->f6 s.S xs=some ys->au w (gd I s.S L) ys vs
 |[],ys,vs,hv,h=>by simp[f6] at h;subst h;simpa[ap,au] using hv
 |x::r,ys,vs,hv,h=>by
  simp only[f6,Option.bind_eq_some_iff,Option.map_eq_some_iff] at h;obtain⟨y,hy,zs,hz,rfl⟩:=h;simp only[ap] at hv;obtain⟨v,u,rfl,h1,h2⟩:=hv;simp only[au];exact⟨v,u,rfl,xX hs h1 hy,oe hs h2 hz⟩
mutual
theorem lI (hs:SR w I L s a) (L0:List Lay):∀ {x y:FV} {v:Value},ai w I L x v->aK true s.S x=some y->ai w (gd I s.S L) L0 y v
 | .d x,y,v,hv,h=>by simp[aK] at h;subst h;simp only[ai] at hv ⊢;exact ar.mono (λ_ _=>rfl) (λb hb=> .inl hb) _ _ hv
 | .sl id n,y,v,hv,h=>by
  simp only[aK] at h;split at h
  ·rename_i k xs hS;split at h
   ·rename_i hn;cases h;simp only[ai];exact ar.mono (λ_ _=>rfl) (λb hb=> .inl hb) _ _ (mr hs hS hn hv)
   ·cases h
  ·rename_i e k xs hS;split at h
   ·rename_i hn;cases h;simp only[ai];exact mS hs hS hn.2 hv
   ·cases h
  ·cases h
 | .mp id,y,v,hv,h=>by
  simp only[aK] at h;split at h
  ·rename_i ks es hS;cases h;simp only[ai] at hv;obtain⟨r,hl,rfl⟩:=hv;obtain⟨r',he,hd⟩:=hs.obs _ _ _ hS hl;cases he;simp only[ai];exact ar.mono (λ_ _=>rfl) (λb hb=> .inl hb) _ _ hd
  ·rename_i ks es hS;simp only[if_true] at h;cases h;simp only[ai] at hv;obtain⟨r,hl,rfl⟩:=hv;obtain⟨r',ents,clock,he,hr,hbo,h1,h2⟩:=hs.obs _ _ _ hS hl;cases he;simp only[ai,ar];exact⟨r,ents,clock,rfl,.inr (aw hS hl r (by simp[own])),hr,hbo,au.mono (λ_ _=>rfl) (λb hb=> .inl hb) _ _ h1,au.mono (λ_ _=>rfl) (λb hb=> .inl hb) _ _ h2⟩
  ·cases h
 | .dp cs,y,v,hv,h=>by
  simp[aK] at h;subst h;simp only[ai] at hv ⊢;obtain⟨b,o,vs,h1,h2,h3,h4,h5⟩:=hv;exact⟨b,o,vs,h1,.inl h2,h3,h4,au.mono (λ_ _=>rfl) (λb hb=> .inl hb) _ _ h5⟩
 | .agg cs,y,v,hv,h=>by
  simp only[aK,Option.map_eq_some_iff] at h;obtain⟨ys,hy,rfl⟩:=h;simp only[ai] at hv;obtain⟨vs,rfl,ho,hr⟩:=hv;exact km (fD hs L0 hr hy) ho
 | .fn f cs,y,v,hv,h=>by
  simp only[aK,Option.map_eq_some_iff] at h;obtain⟨ys,hy,rfl⟩:=h;simp only[ai] at hv ⊢;obtain⟨vs,rfl,hr⟩:=hv;exact⟨vs,rfl,fD hs L0 hr hy⟩
 | .tup cs,y,v,hv,h=>by
  simp only[aK,Option.map_eq_some_iff] at h;obtain⟨ys,hy,rfl⟩:=h;simp only[ai] at hv ⊢;obtain⟨vs,rfl,hr⟩:=hv;exact⟨vs,rfl,fD hs L0 hr hy⟩
 | .ref id off,y,v,hv,h=>by
  simp only[aK] at h;split at h
  ·rename_i t cs hS;simp only[if_true,Option.map_eq_some_iff] at h;obtain⟨ds,hds,rfl⟩:=h;simp only[ai] at hv ⊢;obtain⟨b,hl,rfl⟩:=hv;obtain⟨b',vs,he,hb,ho,hr⟩:=hs.obs _ _ _ hS hl;cases he;have hc:=bQ (iI hb) off;simp only[Nat.zero_add] at hc;exact⟨b,off,vs.drop off,rfl,.inr (aw hS hl b (by simp[own])),hc,ho.drop off,(oe hs hr hds).drop off⟩
  ·cases h
 | .er _ _ _ _,y,v,hv,h=>by simp[aK] at h
 | .so _ _ _ _,y,v,hv,h=>by simp[aK] at h
 | .sc _ _ _,y,v,hv,h=>by simp[aK] at h
 | .dead,y,v,hv,h=>by simp[aK] at h
theorem fD (hs:SR w I L s a) (L0:List Lay):∀ {xs ys:List FV} {vs:List Value},ap w I L xs vs->aI true s.S xs=some ys->ap w (gd I s.S L) L0 ys vs
 |[],ys,vs,hv,h=>by simp[aI] at h;subst h;simpa[ap] using hv
 |x::xs,ys,vs,hv,h=>by
  simp only[aI,Option.bind_eq_some_iff,Option.map_eq_some_iff] at h;obtain⟨y,hy,zs,hz,rfl⟩:=h;simp only[ap] at hv ⊢;obtain⟨v,r,rfl,h1,h2⟩:=hv;exact⟨v,r,rfl,lI hs L0 h1 hy,fD hs L0 h2 hz⟩
end
end
mutual
def ren (σ:Nat->Nat):FV->FV
 | .d x=> .d x
 | .ref id off=> .ref (σ id) off
 | .sl id n=> .sl (σ id) n
 | .er id k i off=> .er (σ id) k i off
 | .dp cs=> .dp cs
 | .agg cs=> .agg (eL σ cs)
 | .fn f cs=> .fn f (eL σ cs)
 | .tup cs=> .tup (eL σ cs)
 | .mp id=> .mp (σ id)
 | .so id k off n=> .so (σ id) k off n
 | .sc id n c=> .sc (σ id) n c
 | .dead=> .dead
def eL (σ:Nat->Nat):List FV->List FV
 |[]=>[]
 |x::r=>ren σ x::eL σ r
end
def cC (σ:Nat->Nat):Ob->Ob
 | .cells t cs=> .cells t (eL σ cs)
 |o=>o
def aF (σ:Nat->Nat):List Ob->List Ob
 |[]=>[]
 |o::r=>cC σ o::aF σ r
def bI:List Ob->List Nat->List Ob->List Ob
 |S,i::p,o::r=>bI (S.set i o) p r
 |S,_,_=>S
section
variable {P:Program} {T:Nat->Option TI} {w w':World} {I I':Nat->Prop} {L L':List Lay} {s s':St} {a:Act} {all:Array Oper} {o:Oper} {rest:List Oper} {Q:Exit->St->Prop}
mutual
theorem ai.ren {σ:Nat->Nat} (h:∀(j:Nat) (l:Lay),L[j]?=some l->L'[σ j]?=some l):∀ {x:FV} {v:Value},ai w I L x v->ai w I L' (ren σ x) v
 | .d x,v,hv=>by simpa only[Pay.ren,ai] using hv
 | .ref id off,v,hv=>by simp only[Pay.ren,ai] at hv ⊢;obtain⟨b,h1,h2⟩:=hv;exact⟨b,h _ _ h1,h2⟩
 | .sl id n,v,hv=>by simp only[Pay.ren,ai] at hv ⊢;obtain⟨l,hd,c,h1,h2⟩:=hv;exact⟨l,hd,c,h _ _ h1,h2⟩
 | .er id k i off,v,hv=>by simp only[Pay.ren,ai] at hv ⊢;obtain⟨b,c,h1,h2⟩:=hv;exact⟨b,c,h _ _ h1,h2⟩
 | .dp cs,v,hv=>by simpa only[Pay.ren,ai] using hv
 | .agg cs,v,hv=>by simp only[Pay.ren,ai] at hv ⊢;obtain⟨vs,h1,h2,h3⟩:=hv;exact⟨vs,h1,h2,ap.ren h h3⟩
 | .fn f cs,v,hv=>by simp only[Pay.ren,ai] at hv ⊢;obtain⟨vs,h1,h3⟩:=hv;exact⟨vs,h1,ap.ren h h3⟩
 | .tup cs,v,hv=>by simp only[Pay.ren,ai] at hv ⊢;obtain⟨vs,h1,h3⟩:=hv;exact⟨vs,h1,ap.ren h h3⟩
 | .mp id,v,hv=>by simp only[Pay.ren,ai] at hv ⊢;obtain⟨r,h1,h2⟩:=hv;exact⟨r,h _ _ h1,h2⟩
 | .so id k off n,v,hv=>by simp only[Pay.ren,ai] at hv ⊢;obtain⟨l,hd,c,h1,h2⟩:=hv;exact⟨l,hd,c,h _ _ h1,h2⟩
 | .sc id n c,v,hv=>by simp only[Pay.ren,ai] at hv ⊢;obtain⟨l,hd,h1,h2⟩:=hv;exact⟨l,hd,h _ _ h1,h2⟩
 | .dead,v,hv=>by simp only[Pay.ren,ai]
theorem ap.ren {σ:Nat->Nat} (h:∀(j:Nat) (l:Lay),L[j]?=some l->L'[σ j]?=some l):∀ {xs:List FV} {vs:List Value},ap w I L xs vs->ap w I L' (eL σ xs) vs
 |[],vs,hv=>by simpa only[eL,ap] using hv
 |x::xs,vs,hv=>by simp only[eL,ap] at hv ⊢;obtain⟨v,r,h1,h2,h3⟩:=hv;exact⟨v,r,h1,ai.ren h h2,ap.ren h h3⟩
end
mutual
theorem ai.back {σ:Nat->Nat} (h:∀(j:Nat) (l:Lay),L[σ j]?=some l->L'[j]?=some l):∀ {x:FV} {v:Value},ai w I L (ren σ x) v->ai w I L' x v
 | .d x,v,hv=>by simpa only[Pay.ren,ai] using hv
 | .ref id off,v,hv=>by simp only[Pay.ren,ai] at hv ⊢;obtain⟨b,h1,h2⟩:=hv;exact⟨b,h _ _ h1,h2⟩
 | .sl id n,v,hv=>by simp only[Pay.ren,ai] at hv ⊢;obtain⟨l,hd,c,h1,h2⟩:=hv;exact⟨l,hd,c,h _ _ h1,h2⟩
 | .er id k i off,v,hv=>by simp only[Pay.ren,ai] at hv ⊢;obtain⟨b,c,h1,h2⟩:=hv;exact⟨b,c,h _ _ h1,h2⟩
 | .dp cs,v,hv=>by simpa only[Pay.ren,ai] using hv
 | .agg cs,v,hv=>by simp only[Pay.ren,ai] at hv ⊢;obtain⟨vs,h1,h2,h3⟩:=hv;exact⟨vs,h1,h2,ap.back h h3⟩
 | .fn f cs,v,hv=>by simp only[Pay.ren,ai] at hv ⊢;obtain⟨vs,h1,h3⟩:=hv;exact⟨vs,h1,ap.back h h3⟩
 | .tup cs,v,hv=>by simp only[Pay.ren,ai] at hv ⊢;obtain⟨vs,h1,h3⟩:=hv;exact⟨vs,h1,ap.back h h3⟩
 | .mp id,v,hv=>by simp only[Pay.ren,ai] at hv ⊢;obtain⟨r,h1,h2⟩:=hv;exact⟨r,h _ _ h1,h2⟩
 | .so id k off n,v,hv=>by simp only[Pay.ren,ai] at hv ⊢;obtain⟨l,hd,c,h1,h2⟩:=hv;exact⟨l,hd,c,h _ _ h1,h2⟩
 | .sc id n c,v,hv=>by simp only[Pay.ren,ai] at hv ⊢;obtain⟨l,hd,h1,h2⟩:=hv;exact⟨l,hd,h _ _ h1,h2⟩
 | .dead,v,hv=>by simp only[ai]
theorem ap.back {σ:Nat->Nat} (h:∀(j:Nat) (l:Lay),L[σ j]?=some l->L'[j]?=some l):∀ {xs:List FV} {vs:List Value},ap w I L (eL σ xs) vs->ap w I L' xs vs
 |[],vs,hv=>by simpa only[eL,ap] using hv
 |x::xs,vs,hv=>by simp only[eL,ap] at hv ⊢;obtain⟨v,r,h1,h2,h3⟩:=hv;exact⟨v,r,h1,ai.back h h2,ap.back h h3⟩
end
theorem b7.ren {σ:Nat->Nat} (h:∀(j:Nat) (l:Lay),L[j]?=some l->L'[σ j]?=some l) {o:Ob} {l:Lay} (ho:b7 w I L o l):b7 w I L' (cC σ o) l:=by
 cases o with
 |cells t cs=>obtain⟨b,vs,h1,h2,h3,h4⟩:=ho;exact⟨b,vs,h1,h2,h3,ap.ren h h4⟩
 |arr e k xs=>exact ho
 |frz k xs=>exact ho
 |map ks es=>exact ho
 |fmap ks es=>exact ho
 |iter ks es seen=>exact ho
 |gone=>trivial
theorem b7.back {σ:Nat->Nat} (h:∀(j:Nat) (l:Lay),L[σ j]?=some l->L'[j]?=some l) {o:Ob} {l:Lay} (ho:b7 w I L (cC σ o) l):b7 w I L' o l:=by
 cases o with
 |cells t cs=>obtain⟨b,vs,h1,h2,h3,h4⟩:=ho;exact⟨b,vs,h1,h2,h3,ap.back h h4⟩
 |arr e k xs=>exact ho
 |frz k xs=>exact ho
 |map ks es=>exact ho
 |fmap ks es=>exact ho
 |iter ks es seen=>exact ho
 |gone=>trivial
theorem cU (σ:Nat->Nat) (o:Ob) (l:Lay):own (cC σ o) l=own o l:=by cases o<;>cases l<;>rfl
theorem dC (σ:Nat->Nat):∀(S:List Ob) (i:Nat),(aF σ S)[i]?=(S[i]?).map (cC σ)
 |[],i=>by simp[aF]
 |x::S,0=>by simp[aF]
 |x::S,i+1=>by simp[aF,dC σ S i]
theorem ji (σ:Nat->Nat):∀(S:List Ob),(aF σ S).length=S.length
 |[]=>rfl
 |x::S=>by simp[aF,ji σ S]
theorem cM:∀(S:List Ob) (p:List Nat) (r:List Ob),(bI S p r).length=S.length
 |S,[],_=>by simp[bI]
 |S,i::p,[]=>by simp[bI]
 |S,i::p,o::r=>by rw[bI,cM];simp
theorem eh:∀(p:List Nat) (S:List Ob) (r:List Ob) (i:Nat),i∉p->(bI S p r)[i]?=S[i]?
 |[],S,_,i,_=>by simp[bI]
 |j::p,S,[],i,_=>by simp[bI]
 |j::p,S,o::r,i,h=>by
  simp only[List.mem_cons,not_or] at h;rw[bI,eh p _ r i h.2,List.getElem?_set_ne (Ne.symm h.1)]
theorem j5:∀(p:List Nat) (S:List Ob) (r:List Ob) (j i:Nat) (o:Ob),p.Nodup->p[j]?=some i->r[j]?=some o->i<S.length->(bI S p r)[i]?=some o
 |[],S,r,j,i,o,_,h,_,_=>by simp at h
 |q::p,S,[],j,i,o,_,_,h,_=>by simp at h
 |q::p,S,x::r,j,i,o,hn,h1,h2,hi=>by
  simp only[List.nodup_cons] at hn;cases j with
  |zero=>
   simp at h1 h2;subst h1;subst h2;rw[bI,eh p _ r q hn.1,List.getElem?_set_self hi]
  |succ j=>
   rw[bI];exact j5 p _ r j i o hn.2 (by simpa using h1) (by simpa using h2) (by simpa using hi)
structure af (P:Program) (g:FuncId):Prop where
 ex:∃fn,P.funcs[g]?=some fn/\(fn.name== "runtime.NumGoroutine")=false/\fn.body.isNone=false
theorem pT {g:FuncId} (hc:af P g) {fx:Operand} {args:Array Operand} {ts:Array TypeId} (ho:o.op= .call {callee:= .value fx,args,argTypes:=ts}) {caps:List Value}
 (hf:a.eval fx= .func (.func g) #[] caps.toArray):(execOp a.eval o).run P w= .ok (.enter g (args.toList.map a.eval++caps).toArray) w:=by
 obtain⟨fn,h1,h2,h3⟩:=hc.ex;unfold execOp;simp only[ho,resolve,Deferred.ofValue,hf,Sem.run_bind,Sem.run_pure,Result.andThen_ok,invoke,callFunc,run_program,h1,h2,h3,Bool.false_eq_true,if_false];congr 2
 apply Array.ext';simp
def σ0 (n:Nat) (perm:List Nat) (j:Nat):Nat:=perm.getD j n
def σ1 (n:Nat) (perm:List Nat) (j:Nat):Nat:=if j<perm.length then perm.getD j n else n+(j-perm.length)
def DZ (S:List Ob) (perm:List Nat) (x c:FV):Prop:=x=ren (σ0 S.length perm) c\/aK false S x=some c
def eb (S:List Ob) (perm:List Nat):List FV->List FV->Prop
 |[],[]=>True
 |x::xs,c::cs=>DZ S perm x c/\eb S perm xs cs
 |_,_=>False
def mZ (S:List Ob) (perm:List Nat) (cS:List Ob):Prop:=cS.length=perm.length/\∀(j i:Nat) (c:Ob),perm[j]?=some i->cS[j]?=some c->S[i]?=some (cC (σ0 S.length perm) c)
theorem t7 (hs:SR w I L s a) {perm:List Nat} {Lc:List Lay} (hL:∀(j:Nat) (l:Lay),L[σ0 s.S.length perm j]?=some l->Lc[j]?=some l):∀ {xs cs:List FV} {vs:List Value},eb s.S perm xs cs->ap w I L xs vs->ap w I Lc cs vs
 |[],[],vs,_,h=>by simpa only[ap] using h
 |x::xs,c::cs,vs,ha,h=>by
  simp only[ap] at h ⊢;obtain⟨v,r,h1,h2,h3⟩:=h;refine⟨v,r,h1,?_,t7 hs hL ha.2 h3⟩;rcases ha.1 with rfl|h4
  ·exact ai.back hL h2
  ·exact lJ hs Lc h2 h4
 |[],_::_,vs,ha,_=>ha.elim
 |_::_,[],vs,ha,_=>ha.elim
theorem WpO.call {fx:Operand} {args:Array Operand} {ts:Array TypeId} {g:FuncId} {caps xs:List FV} (hw:bh all s o=some true) (ho:o.op= .call {callee:= .value fx,args,argTypes:=ts})
 (hf:evX s fx=some (.fn g caps)) (hx:evXs s args.toList=some xs) (hc:af P g) (hp:s.pin<=s.S.length)
 (perm:List Nat) (hn:perm.Nodup) (hlt:∀i∈perm,i<s.S.length) {cargs:List FV} {cS:List Ob} (ha:eb s.S perm (xs++caps) cargs) (hpass:mZ s.S perm cS)
 {R:FV->List Ob->Prop} (hcall:WpF P g cargs cS R)
 (hrest:∀r S1,R r S1->∃s',aY {s with S:=bI s.S perm (aF (σ1 s.S.length perm) (S1.take perm.length))++aF (σ1 s.S.length perm) (S1.drop perm.length)} o.dst (ren (σ1 s.S.length perm) r)=some s'/\WpO P all rest s' Q):
 WpO P all (o::rest) s Q:=λw I L a hs=>by
 unfold wpList;rw[if_pos (hs.want hw)];refine .inl ?_;have hfv:=hs.evX hf;simp only[ai] at hfv;obtain⟨cvs,hfv,hcv⟩:=hfv;unfold Oper.wp;rw[pT hc ho hfv,Oper.upon_enter];obtain⟨hlen,hpo⟩:=hpass;have hLc:∃Lc:List Lay,Lc.length=perm.length/\∀(j i:Nat),perm[j]?=some i->Lc[j]?=L[i]?:=by
  refine⟨perm.map λi=>L.getD i (.m 0),by simp,λj i hj=>?_⟩
  have hi:i<L.length:=by rw[hs.len];exact hlt i (List.mem_of_getElem? hj)
  simp[hj,List.getD,List.getElem?_eq_getElem hi]
 obtain⟨Lc,hLl,hLc⟩:=hLc;have hback:∀(j:Nat) (l:Lay),L[σ0 s.S.length perm j]?=some l->Lc[j]?=some l:=by
  intro j l hl;by_cases hj:j<perm.length
  ·rw[hLc j perm[j] (List.getElem?_eq_getElem hj)];simpa[σ0,List.getD,List.getElem?_eq_getElem hj] using hl
  ·have:L.length<=s.S.length:=by rw[hs.len];exact Nat.le_refl _
   simp[σ0,List.getD,List.getElem?_eq_none (Nat.le_of_not_lt hj),List.getElem?_eq_none this] at hl
 have hcS:∀(j:Nat) (c:Ob),cS[j]?=some c->∃i,perm[j]?=some i/\s.S[i]?=some (cC (σ0 s.S.length perm) c):=by
  intro j c hj;have hjl:j<perm.length:=by rw[<-hlen];exact(List.getElem?_eq_some_iff.1 hj).1
  exact⟨perm[j],List.getElem?_eq_getElem hjl,hpo j _ c (List.getElem?_eq_getElem hjl) hj⟩
 have hinj:∀(j j' i:Nat),perm[j]?=some i->perm[j']?=some i->j=j':=by
  intro j j' i h1 h2;have hj:=(List.getElem?_eq_some_iff.1 h1).1;exact(List.getElem?_inj hj hn).1 (h1.trans h2.symm)
 have hmem:∀b∈aB cS Lc,b∈aB s.S L:=by
  intro b hb;obtain⟨j,c,l,h1,h2,h3⟩:=aZ hb;obtain⟨i,h4,h5⟩:=hcS j c h1;exact aw h5 (by rw[<-hLc j i h4];exact h2) b (by rw[cU];exact h3)
 have hOR:OR w I Lc cS:=by
  refine⟨by rw[hLl,hlen],λj c l h1 h2=>?_,cY λj j' c c' l l' hne h1 h2 h3 h4 b hb hb'=>?_,λb hb=>hs.sep b (hmem b hb),hs.imm⟩
  ·obtain⟨i,h4,h5⟩:=hcS j c h1;exact b7.back hback (hs.obs i _ l h5 (by rw[<-hLc j i h4];exact h2))
  ·obtain⟨i,h5,h6⟩:=hcS j c h1;obtain⟨i',h7,h8⟩:=hcS j' c' h3;have hii:i≠i':=λe=>hne (hinj j j' i h5 (e▸h7))
   exact aR hs.nodup h6 (by rw[<-hLc j i h5];exact h2) h8 (by rw[<-hLc j' i' h7];exact h4) hii b (by rw[cU];exact hb) (by rw[cU];exact hb')
 have hargs:ap w I Lc cargs (args.toList.map a.eval++cvs):=t7 hs hback ha ((hs.evXs hx).append hcv);refine(hcall w I Lc _ hargs hOR).mono λe w' ⟨r,v,S1,I1,L1,he,hR,hrv,hO1,evo,hle,hlay⟩=>?_
 subst he;obtain⟨s1,hset,hk⟩:=hrest r S1 hR;show wpList P all _ rest (a.put o.dst v) w'
 let L2:=L++L1.drop perm.length
 have hL1l:L1.length=S1.length:=hO1.len;have hleP:perm.length<=S1.length:=by rw[<-hlen];exact hle
 have hfor:∀(j:Nat) (l:Lay),L1[j]?=some l->L2[σ1 s.S.length perm j]?=some l:=by
  intro j l hl;unfold σ1;by_cases hj:j<perm.length
  ·rw[if_pos hj];have h1:=hlay j (by rw[hlen];exact hj)
   rw[hl] at h1;have h2:=hLc j perm[j] (List.getElem?_eq_getElem hj);rw[<-h1] at h2;have hi:perm[j]<L.length:=by rw[hs.len];exact hlt _ (List.getElem_mem hj)
   simp only[List.getD,List.getElem?_eq_getElem hj,Option.getD_some,L2];rw[List.getElem?_append_left hi];exact h2.symm
  ·rw[if_neg hj];simp only[L2];rw[List.getElem?_append_right (by rw[hs.len];omega),hs.len,List.getElem?_drop]
   rw[<-hl];congr 1
   omega
 have hext:∀(i:Nat) (l:Lay),L[i]?=some l->L2[i]?=some l:=λi l hl=>by
  simp only[L2];rw[List.getElem?_append_left (List.getElem?_eq_some_iff.1 hl).1];exact hl
 have hI:∀b,I b->w'.heap[b]?=w.heap[b]?:=λb hb=>evo.keep b (hs.imm b hb) λh=>(hs.sep b (hmem b h)).1 hb
 have hblk:∀b∈aB S1 L1,b∈aB cS Lc\/w.heap.size<=b:=evo.own
 have hS2:(bI s.S perm (aF (σ1 s.S.length perm) (S1.take perm.length))++aF (σ1 s.S.length perm) (S1.drop perm.length)).length=L2.length:=by
  simp only[L2,List.length_append,cM,ji,List.length_drop,hs.len,hL1l]
 have hcase:∀(i:Nat) (ob:Ob) (l:Lay),(bI s.S perm (aF (σ1 s.S.length perm) (S1.take perm.length))++aF (σ1 s.S.length perm) (S1.drop perm.length))[i]?=some ob->L2[i]?=some l->
  (i∉perm/\s.S[i]?=some ob/\L[i]?=some l)\/(∃(j:Nat) (c:Ob),i=σ1 s.S.length perm j/\S1[j]?=some c/\L1[j]?=some l/\ob=cC (σ1 s.S.length perm) c):=by
  intro i ob l h1 h2;by_cases hi:i<s.S.length
  ·rw[List.getElem?_append_left (by rw[cM];exact hi)] at h1
   have h2':L[i]?=some l:=by
    simp only[L2] at h2
    rwa [List.getElem?_append_left (by rw[hs.len];exact hi)] at h2
   by_cases hip:i∈perm
   ·right
    obtain⟨j,hj⟩:=List.getElem?_of_mem hip;have hjl:j<perm.length:=(List.getElem?_eq_some_iff.1 hj).1;have hj1:j<S1.length:=by omega
    have hget:(aF (σ1 s.S.length perm) (S1.take perm.length))[j]?=some (cC (σ1 s.S.length perm) S1[j]):=by
     rw[dC,List.getElem?_take_of_lt hjl,List.getElem?_eq_getElem hj1];rfl
    rw[j5 perm s.S _ j i _ hn hj hget hi] at h1;cases h1;refine⟨j,S1[j],?_,List.getElem?_eq_getElem hj1,?_,rfl⟩
    ·unfold σ1;rw[if_pos hjl,List.getD_eq_getElem?_getD,hj];rfl
    ·rw[hlay j (by rw[hlen];exact hjl),hLc j i hj];exact h2'
   ·left
    rw[eh perm s.S _ i hip] at h1;exact⟨hip,h1,h2'⟩
  ·right
   rw[List.getElem?_append_right (by rw[cM];omega),cM,dC,List.getElem?_drop] at h1
   simp only[L2] at h2;rw[List.getElem?_append_right (by rw[hs.len];omega),hs.len,List.getElem?_drop] at h2
   simp only[Option.map_eq_some_iff] at h1;obtain⟨c,hc1,rfl⟩:=h1;refine⟨perm.length+(i-s.S.length),c,?_,hc1,h2,rfl⟩;unfold σ1;rw[if_neg (by omega)]
   omega
 have hfar:∀(i:Nat) (ob:Ob) (l:Lay),i∉perm->s.S[i]?=some ob->L[i]?=some l->∀b∈own ob l,b∉aB cS Lc:=by
  intro i ob l hip h1 h2 b hb hb';obtain⟨j,c,lc,h3,h4,h5⟩:=aZ hb';obtain⟨i',h6,h7⟩:=hcS j c h3;have hne:i≠i':=λe=>hip (e▸List.mem_of_getElem? h6)
  exact aR hs.nodup h1 h2 h7 (by rw[<-hLc j i' h6];exact h4) hne b hb (by rw[cU];exact h5)
 have hold:∀(i:Nat) (ob:Ob) (l:Lay),i∉perm->s.S[i]?=some ob->L[i]?=some l->∀b∈own ob l,w'.heap[b]?=w.heap[b]?:=λi ob l hip h1 h2 b hb=>
  evo.keep b (hs.sep b (aw h1 h2 b hb)).2 (hfar i ob l hip h1 h2 b hb)
 have hSR:SR w' I1 L2 {s with S:=bI s.S perm (aF (σ1 s.S.length perm) (S1.take perm.length))++aF (σ1 s.S.length perm) (S1.drop perm.length)} a:=by
  refine⟨λt x hx=>ai.mono hI evo.imm hext _ _ (hs.env t x hx),hs.nt,hS2.symm,?_,?_,?_,hO1.imm,hs.defers⟩
  ·intro i ob l h1 h2;rcases hcase i ob l h1 h2 with⟨hip,h3,h4⟩|⟨j,c,rfl,h3,h4,rfl⟩
   ·exact b7.mono hI evo.imm hext (hold i ob l hip h3 h4) (hs.obs i ob l h3 h4)
   ·exact b7.ren hfor (hO1.obs j c l h3 h4)
  ·refine cY λi i' ob ob' l l' hne h1 h2 h3 h4 b hb hb'=>?_
   rcases hcase i ob l h1 h2 with⟨hip,h5,h6⟩|⟨j,c,rfl,h5,h6,rfl⟩
   ·rcases hcase i' ob' l' h3 h4 with⟨hip',h7,h8⟩|⟨j',c',rfl,h7,h8,rfl⟩
    ·exact aR hs.nodup h5 h6 h7 h8 hne b hb hb'
    ·rw[cU] at hb';rcases hblk b (aw h7 h8 b hb') with h9|h9
     ·exact hfar i ob l hip h5 h6 b hb h9
     ·have:=(hs.sep b (aw h5 h6 b hb)).2;omega
   ·rw[cU] at hb;rcases hcase i' ob' l' h3 h4 with⟨hip',h7,h8⟩|⟨j',c',rfl,h7,h8,rfl⟩
    ·rcases hblk b (aw h5 h6 b hb) with h9|h9
     ·exact hfar i' ob' l' hip' h7 h8 b hb' h9
     ·have:=(hs.sep b (aw h7 h8 b hb')).2;omega
    ·rw[cU] at hb';exact aR hO1.nodup h5 h6 h7 h8 (λe=>hne (by rw[e])) b hb hb'
  ·intro b hb;obtain⟨i,ob,l,h1,h2,h3⟩:=aZ hb;rcases hcase i ob l h1 h2 with⟨hip,h5,h6⟩|⟨j,c,rfl,h5,h6,rfl⟩
   ·have hold1:=hs.sep b (aw h5 h6 b h3);refine⟨λhi=>?_,Nat.lt_of_lt_of_le hold1.2 evo.size⟩
    rcases evo.immNew b hi with h9|h9|h9
    ·exact hold1.1 h9
    ·exact hfar i ob l hip h5 h6 b h3 h9
    ·omega
   ·rw[cU] at h3;exact hO1.sep b (aw h5 h6 b h3)
 have hStep:bq w I L s w' I1 L2 {s with S:=bI s.S perm (aF (σ1 s.S.length perm) (S1.take perm.length))++aF (σ1 s.S.length perm) (S1.drop perm.length)}:=by
  refine⟨⟨evo.os,evo.tape,evo.output,evo.size,λb hb hnb=>evo.keep b hb λh=>hnb (hmem b h),evo.imm,λb hb=>?_,λb hb=>?_⟩,rfl,λi hi=>?_⟩
  ·rcases evo.immNew b hb with h|h|h
   ·exact .inl h
   ·exact .inr (.inl (hmem b h))
   ·exact .inr (.inr h)
  ·obtain⟨i,ob,l,h1,h2,h3⟩:=aZ hb;rcases hcase i ob l h1 h2 with⟨hip,h5,h6⟩|⟨j,c,rfl,h5,h6,rfl⟩
   ·exact .inl (aw h5 h6 b h3)
   ·rw[cU] at h3;exact(hblk b (aw h5 h6 b h3)).imp (hmem b) λh=>h
  ·simp only[L2];rw[List.getElem?_append_left (by rw[hs.len];omega)]
 obtain⟨q1,q2⟩:=bn hSR hStep (ai.ren hfor hrv) hset;exact bN (λe a' w'' p=>p.from q2) _ _ _ (hk w' I1 L2 _ q1)
end
end Go.Proofs.YtlhmejigmokbhaaGreatDoor.Pay
