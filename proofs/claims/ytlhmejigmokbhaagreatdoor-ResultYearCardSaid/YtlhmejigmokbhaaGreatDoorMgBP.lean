/- The texts GaF, RsE, one behind the other. No statement of the seed is proved here. -/
import Derived.Test.YtlhmejigmokbhaaGreatDoorMgW
import Derived.Test.YtlhmejigmokbhaaGreatDoorMgBO
namespace Go.Proofs.YtlhmejigmokbhaaGreatDoor.Pay
open Go Go.RowKit
set_option linter.unusedVariables false
set_option linter.unusedSimpArgs false
set_option linter.unusedSectionVars false
theorem gZ {net prot:Int} {l:List Ord} (h:eO net prot l=0):eJ (at0 (net-prot)) (jl l) (fC l) l.length/\(∀o∈l,0<=o.claim/\o.claim<=1125899906842624/\0<=o.bal/\o.bal<=1125899906842624)/\(-1125899906842624<=net/\net<=1125899906842624)/\0<=prot/\prot<=1125899906842624:=by
 unfold eO at h;split at h
 ·simp at h
 rename_i h8;split at h
 ·simp at h
 rename_i hneg;split at h
 ·simp at h
 rename_i hbig;have hall:∀o∈l,0<=o.claim/\o.claim<=1125899906842624/\0<=o.bal/\o.bal<=1125899906842624:=λo ho=>by
  have h1:(l.any λx=>decide (x.claim<0\/x.bal<0))=false:=by
   cases q:(l.any λx=>decide (x.claim<0\/x.bal<0)) with
   |false=>rfl
   |true=>exact absurd (.inr q) hneg
  have h2:(l.any λx=>decide (1125899906842624<x.claim\/1125899906842624<x.bal))=false:=by
   cases q:(l.any λx=>decide (1125899906842624<x.claim\/1125899906842624<x.bal)) with
   |false=>rfl
   |true=>exact absurd (.inr (.inr q)) hbig
  rw[List.any_eq_false] at h1 h2;have:=h1 o ho;have:=h2 o ho;simp at*;omega
 have hw:∀i,i<l.length->0<=fC l i/\fC l i<=1125899906842624:=λi hi=>by
  unfold fC;rw[List.getElem?_eq_getElem hi];have:=hall _ (List.getElem_mem hi);show 0<=min _ _/\min _ _<=_
  omega
 exact⟨⟨px _,by omega,λi hi=>(hw i hi).1,λi hi=>(hw i hi).2⟩,hall,by omega,by omega⟩
def dN (i:Nat):D:=dI (i:Int)
def oG (f o:Nat->Int) (ats:List Nat) (k:Nat):Nat->Int:=λi=>if i∈ats.take k then f i else o i
theorem Bh (f o:Nat->Int) (ats:List Nat):oG f o ats 0=o:=by funext i;simp[oG]
theorem vF {l:List Nat} {k:Nat} (hk:k<l.length) {x:Nat}:x∈l.take (k+1)↔x∈l.take k\/x=l[k]:=by
 rw[List.take_add_one,List.getElem?_eq_getElem hk];simp only[Option.toList_some,List.mem_append,List.mem_singleton]
theorem Bi (f o:Nat->Int) {ats:List Nat} {k:Nat} (hk:k<ats.length):upd (oG f o ats k) ats[k] (f ats[k])=oG f o ats (k+1):=by
 funext i
 unfold upd oG;have h1:=vF hk (x:=i);by_cases e:i=ats[k]
 ·rw[if_pos e,if_pos (h1.2 (.inr e)),e]
 ·rw[if_neg e];by_cases e2:i∈ats.take k
  ·rw[if_pos e2,if_pos (h1.2 (.inl e2))]
  ·rw[if_neg e2,if_neg (λq=>(h1.1 q).elim e2 e)]
def oF (A:Int) (P W:Nat->Int) (n:Nat) (ps:List Int) (k:Nat):Nat->Int:=λi=>if P i∈ps.take k then el A P W n i else 0
theorem Bj (A:Int) (P W:Nat->Int) (n:Nat) (ps:List Int):oF A P W n ps 0=λ_=>0:=by funext i;simp[oF]
theorem Bk {A:Int} {P W:Nat->Int} {n:Nat} {ps:List Int} {q:Nat} (hq:q<ps.length) {ats:List Nat} (ha:atN P n ps[q]=ats):aA (oG (el A P W n) (oF A P W n ps q) ats ats.length) n=aA (oF A P W n ps (q+1)) n:=fH λi hi=>by
 unfold oG oF;rw[List.take_of_length_le (Nat.le_refl _),<-ha];have h1:=ss hq (x:=P i);have h2:=lD (P:=P) (n:=n) (p:=ps[q]) (i:=i);by_cases e:P i=ps[q]
 ·rw[if_pos (h2.2 ⟨hi,e⟩),if_pos (h1.2 (.inr e))]
 ·rw[if_neg (λz=>e (h2.1 z).2)]
  by_cases e2:P i∈ps.take q
  ·rw[if_pos e2,if_pos (h1.2 (.inl e2))]
  ·rw[if_neg e2,if_neg (λz=>(h1.1 z).elim e2 e)]
theorem Ft {A:Int} {P W:Nat->Int} {n:Nat} {ps:List Int} (h:Prs P n ps):aA (oF A P W n ps ps.length) n=aA (el A P W n) n:=fH λi hi=>by
 unfold oF;rw[List.take_of_length_le (Nat.le_refl _),if_pos (h.all i hi)]
theorem Ji (x:Int):max x 0=at0 x:=by unfold at0;split<;>omega
def AD (net prot:Int) (l:List Ord):List D:=if eO net prot l=0 then aA (el (at0 (net-prot)) (jl l) (fC l) l.length) l.length else []
structure Hq (A:Int) (P W:Nat->Int) (n:Nat) (h:Nat->Int) (m:Nat) (T:Nat->Int) (O:Nat->Nat->Int):Prop where
 T0:T 0=A
 O0:O 0=λ_=>0
 th:∀q,q<m->thN A P W n (h q)=T q
 Tb:∀q,0<=T q/\T q<=A
 Tn:∀q,q<m->T q-(pN A P W n (h q)).sum=T (q+1)
 On:∀q,q<m->∀ats,atN P n (h q)=ats->aA (oG (el A P W n) (O q) ats ats.length) n=aA (O (q+1)) n
 Om:aA (O m) n=aA (el A P W n) n
theorem uk {A:Int} {P W:Nat->Int} {n m:Nat} {h:Nat->Int} (g:eJ A P W n) (hps:Prs P n ((List.range m).map h)):∃T O,Hq A P W n h m T O:=by
 obtain⟨ps,hp⟩:∃ps,(List.range m).map h=ps:=⟨_,rfl⟩
 have hl:ps.length=m:=by rw[<-hp];simp
 have hat:∀q (hq:q<ps.length),ps[q]=h q:=λq hq=>by simp[<-hp]
 rw[hp] at hps;refine⟨λk=>at0 (A-ahS P W n ps k),oF A P W n ps,?_,Bj _ _ _ _ _,λq hq=>?_,λq=>⟨px _,?_⟩,λq hq=>?_,λq hq ats ha=>?_,?_⟩
 ·have e2:ahS P W n ps 0=0:=(bv λi _=>by simp).trans (ii n)
  show at0 (A-ahS P W n ps 0)=A
  rw[e2];have:=g.A0;unfold at0;split<;>omega
 ·rw[<-hat q (by omega)];exact(ot g hps (by omega)).1
 ·have:0<=ahS P W n ps q:=fF λi hi=>by have:=g.w0 i hi;split<;>omega
  have:=g.A0;show at0 (A-ahS P W n ps q)<=A
  unfold at0;split<;>omega
 ·rw[<-hat q (by omega)];exact(ot g hps (by omega)).2.2.symm
 ·rw[<-hat q (by omega)] at ha
  exact Bk (by omega) ha
 ·rw[<-hl];exact Ft hps
structure Jq (P W:Nat->Int) (p:Int) (n:Nat) (a w:Nat->List D) (c:Nat->Nat) (s:Nat->Int):Prop where
 a0:a 0=[]
 w0:w 0=[]
 c0:c 0=0
 s0:s 0=0
 ay:∀k,P k=p->a (k+1)=a k++[dI (k:Int)]
 wy:∀k,P k=p->w (k+1)=w k++[dI (W k)]
 cy:∀k,P k=p->c (k+1)=c k+1
 sy:∀k,P k=p->s (k+1)=s k+W k
 an:∀k,¬P k=p->a (k+1)=a k
 wn:∀k,¬P k=p->w (k+1)=w k
 cn:∀k,¬P k=p->c (k+1)=c k
 sn:∀k,¬P k=p->s (k+1)=s k
 al:∀k,(a k).length=c k
 wl:∀k,(w k).length=c k
 cl:∀k,c k<=k
 sb:∀k,k<=n->0<=s k/\s k<=9007199254740992
 ae:a n=(atN P n p).map dN
 we:w n=(wN P W n p).map dI
 ce:c n=(atN P n p).length
 se:s n=(wN P W n p).sum
theorem grp {A:Int} {P W:Nat->Int} {n:Nat} (g:eJ A P W n) (p:Int):∃a w c s,Jq P W p n a w c s:=by
 have h1:∀k,P k=p->atN P (k+1) p=atN P k p++[k]:=λk h=>by rw[jS,if_pos h]
 have h2:∀k,P k=p->wN P W (k+1) p=wN P W k p++[W k]:=λk h=>by rw[si,if_pos h]
 have h3:∀k,¬P k=p->atN P (k+1) p=atN P k p:=λk h=>by rw[jS,if_neg h]
 have h4:∀k,¬P k=p->wN P W (k+1) p=wN P W k p:=λk h=>by rw[si,if_neg h]
 refine⟨λk=>(atN P k p).map dN,λk=>(wN P W k p).map dI,λk=>(atN P k p).length,λk=>(wN P W k p).sum,rfl,rfl,rfl,rfl,λk h=>?_,λk h=>?_,λk h=>?_,λk h=>?_,λk h=>?_,λk h=>?_,λk h=>?_,λk h=>?_,λk=>by simp,λk=>by simp[jX],λk=>pw p,λk hk=>?_,rfl,rfl,rfl,rfl⟩
 ·simp only[h1 k h,List.map_append];rfl
 ·simp only[h2 k h,List.map_append];rfl
 ·simp only[h1 k h,List.length_append];rfl
 ·simp only[h2 k h,List.sum_append];simp
 ·simp only[h3 k h]
 ·simp only[h4 k h]
 ·simp only[h3 k h]
 ·simp only[h4 k h]
 ·have g':eJ A P W k:=⟨g.A0,by have:=g.n8;omega,λi hi=>g.w0 i (by omega),λi hi=>g.wb i (by omega)⟩
  exact(pE g' p).2.2
structure Jp (A:Int) (P W:Nat->Int) (n:Nat) (p:Int) (o:Nat->Int) (ats:List Nat) (pp:List Int) (O2:Nat->Nat->Int) (S2:Nat->Int):Prop where
 len:pp.length=ats.length
 lt:∀k (h:k<ats.length),ats[k]<n
 O0:O2 0=o
 S0:S2 0=0
 On:∀k (h:k<ats.length) (h':k<pp.length),upd (O2 k) ats[k] pp[k]=O2 (k+1)
 Sn:∀k (h':k<pp.length),S2 (k+1)=S2 k+pp[k]
 Sb:∀k,0<=S2 k/\S2 k<=pp.sum
 pb:∀k (h':k<pp.length),0<=pp[k]
 Oe:O2 ats.length=oG (el A P W n) o ats ats.length
 Se:S2 ats.length=pp.sum
theorem prt {A:Int} {P W:Nat->Int} {n:Nat} (g:eJ A P W n) (p:Int) (o:Nat->Int):∃O2 S2,Jp A P W n p o (atN P n p) (pN A P W n p) O2 S2:=by
 obtain⟨h1,h2,h3⟩:=ma g p;have h0:∀x∈pN A P W n p,0<=x:=λx hx=>by
  obtain⟨j,hj,rfl⟩:=List.getElem_of_mem hx;exact(h2 j hj (by rw[jX,<-h1];exact hj)).1
 refine⟨oG (el A P W n) o (atN P n p),λk=>((pN A P W n p).take k).sum,h1,λk h=>(lD.1 (List.getElem_mem h)).1,Bh _ _ _,rfl,λk h h'=>?_,λk h'=>pL h',λk=>⟨?_,kE h0 k⟩,λk h'=>h0 _ (List.getElem_mem h'),rfl,?_⟩
 ·have:(pN A P W n p)[k]=el A P W n (atN P n p)[k]:=by simp only[<-He g p,List.getElem_map]
  rw[this];exact Bi _ _ h
 ·exact cX λx hx=>h0 x (List.mem_of_mem_take hx)
 ·show((pN A P W n p).take _).sum=_
  rw[<-h1,List.take_of_length_le (Nat.le_refl _)]
set_option maxHeartbeats 40000000 in
theorem wh (net prot:Int) (l:List Ord) (hl:l.length<=1000000):ah Tryz.prog 24 [.d (dI net),.d (dI prot),.d (dz l)] (.tup [.d (.list 1 (AD net prot l)),.d (dI (eO net prot l))]):=by
 have hck:=xV net prot l (by omega)
 unfold AD;have hgd:=gZ (net:=net) (prot:=prot) (l:=l);have hmx:=Ji (net-prot);obtain⟨A,hA⟩:∃A,at0 (net-prot)=A:=⟨_,rfl⟩
 obtain⟨e,he⟩:∃e,eO net prot l=e:=⟨_,rfl⟩
 obtain⟨P,hP⟩:∃P,jl l=P:=⟨_,rfl⟩
 obtain⟨W,hW⟩:∃W,fC l=W:=⟨_,rfl⟩
 obtain⟨n,hn⟩:∃n,l.length=n:=⟨_,rfl⟩
 have hPi:∀i (h:i<l.length),P i=l[i].pri:=λi h=>by rw[<-hP];unfold jl;rw[List.getElem?_eq_getElem h];rfl
 have hWi:∀i (h:i<l.length),W i=l[i].want:=λi h=>by rw[<-hW];unfold fC;rw[List.getElem?_eq_getElem h];rfl
 have hpr:n<=12->_:=λh=>wA l n hn h
 rw[hA] at hmx hgd ⊢;rw[he] at hgd hck ⊢;rw[hP] at hgd hpr ⊢;rw[hW] at hgd ⊢;rw[hn] at hgd ⊢;refine ah.enter tabOk Tryz.func24 rfl (by show 3<=100;decide) ?_
 simp only[Tryz.f24];have H:=hn;refine qR (by simp -implicitDefEqProofs[dN,H]<;>rfl) ?_
 refine WpC.seq ?_;refine WpC.seq ?_;refine WpC.region ?_;refine WpO.run tabOk 3 (by simp -implicitDefEqProofs[dN,H]<;>first|exact⟨rfl,rfl⟩|rfl) ?_
 refine WpO.data (by simp) rfl (by simp -implicitDefEqProofs[dN,H]<;>rfl) (by simp -implicitDefEqProofs[dN,H]<;>rfl) (by simp -implicitDefEqProofs[dN,H]<;>rfl) Cx (by simp) (hck) (by rfl) (by simp -implicitDefEqProofs[dN,H]<;>rfl) ?_
 refine WpO.run tabOk 1 (by simp -implicitDefEqProofs[dN,H]<;>first|exact⟨rfl,rfl⟩|rfl) ?_
 refine WpO.nil ?_;refine qR (by simp -implicitDefEqProofs[dN,H]<;>rfl) ?_
 refine WpC.condD (¬e=0) (by simp -implicitDefEqProofs[dN,H]) (λd26=>?_) (λd26=>?_)
 ·replace H:=And.intro d26 H;refine qR (by simp -implicitDefEqProofs[dN,H]<;>rfl) ?_
  refine WpC.ret ?_;try simp only[aa,aj]
  refine dB (by simp -implicitDefEqProofs[dN,H]<;>rfl) (by simp -implicitDefEqProofs[dN,H]<;>rfl) ?_
  simp[d26]
 have he0:e=0:=Classical.not_not.1 d26;obtain⟨g,hall,hnet,hprot⟩:=hgd he0;have hA2:A<=2251799813685248:=by rw[<-hA];unfold at0;split<;>omega
 have hA0:=g.A0;have hn8:=g.n8;have w1:IntKind.i64.wrap (net-prot)=net-prot:=am (by omega) (by omega)
 have w2:n<=8589934592:=by omega
 have w3:(n:Int)<=8589934592:=by omega
 have hz:List.replicate n (D.int .i64 0)=aA (λ_=>0) n:=by
  rw[oM (λ_=>0) n];exact fH λi hi=>by simp[pk]
 have hpr:=(hpr (by omega)).mono (Q':=λr S=>∃h m T O,m<=n/\r= .sl 0 m/\S=[.arr 3 1 (aA h n)]/\Hq A P W n h m T O) λr S ⟨h,m,q1,q2,q3,q4⟩=>by
  obtain⟨T,O,q5⟩:=uk g q4;exact⟨h,m,T,O,q1,q2,q3,q5⟩
 replace H:=And.intro d26 (And.intro w1 (And.intro w2 (And.intro w3 (And.intro hz (And.intro hmx H)))));refine WpC.skip ?_;iterate 2 refine qR (by simp -implicitDefEqProofs[dN,H]<;>rfl) ?_
 refine WpC.seq ?_;refine WpC.seq ?_;refine WpC.region ?_;refine WpO.run tabOk 1 (by simp -implicitDefEqProofs[dN,H]<;>first|exact⟨rfl,rfl⟩|rfl) ?_
 refine WpO.callP [] (by simp) rfl (by simp -implicitDefEqProofs[dN,H]<;>rfl) (by simp -implicitDefEqProofs[dN,H]<;>rfl) Cw (by simp) (by simp) (by simp) (by simp -implicitDefEqProofs[dN,H]) (by simp;rfl) (by simp -implicitDefEqProofs[dN,H]) (hpr) λr S1 hr=>?_
 obtain⟨h,m,T,O,hm,rfl,rfl,hI⟩:=hr;refine⟨_,by simp -implicitDefEqProofs[dN,H]<;>rfl,?_⟩
 refine WpO.run tabOk 2 (by simp -implicitDefEqProofs[dN,H]<;>first|exact⟨rfl,rfl⟩|rfl) ?_
 refine WpO.nil ?_;refine WpC.block ?_;refine WpC.loopK [2,10,36,37] [9,38] (m) (():Unit) (λk _=>[(9,.d (dI (T k))),(38,.d (.int .i64 k))]) (λk _=>[.arr 3 1 (aA (O k) n),.arr 3 1 (aA h n)]) (λk _=>True) (by simp -implicitDefEqProofs[dN,H]<;>rfl) (Gh.cut' [9,38,2,10,36,37] 2 (by simp -implicitDefEqProofs[hI.T0,hmx,w1]) (by simp -implicitDefEqProofs[hI.O0,hz]) rfl (by simp) (by simp) (by simp)) (trivial) ?_
 rintro k ⟨⟩ hk hi;simp only[List.cons_append,List.nil_append];refine qR (by simp -implicitDefEqProofs[dN,H]<;>rfl) ?_
 refine WpC.seq (WpC.condD (k<m) (by simp -implicitDefEqProofs[dN,H]<;>omega) (λhlt=>?_) (λhge=>?_))
 ·refine WpC.skip ?_;obtain⟨q,rfl⟩:∃q,q=k:=⟨k,rfl⟩
  have hq:q<m:=hlt;have hqn:q<n:=by omega
  obtain⟨p,hp⟩:∃p,h q=p:=⟨_,rfl⟩
  have hqw:IntKind.i64.wrap ((q:Int)+1)=q+1:=am (by omega) (by omega)
  obtain⟨a,w,c,sm,hG⟩:=grp g p;have hth:=hI.th q hq;have hTb:=hI.Tb q;have hTn:=hI.Tn q hq;have hOn:=hI.On q hq;rw[hp] at hth hTn hOn;obtain⟨t,ht⟩:∃t,T q=t:=⟨_,rfl⟩
  obtain⟨o,ho⟩:∃o,O q=o:=⟨_,rfl⟩
  rw[ht] at hth hTb hTn;rw[ho] at hOn;replace H:=And.intro hlt (And.intro hq (And.intro hqn (And.intro hm (And.intro hp (And.intro hqw (And.intro ht (And.intro ho H)))))));refine WpC.seq ?_;refine WpC.block ?_;iterate 3 refine qR (by simp -implicitDefEqProofs[dN,H]<;>rfl) ?_
  refine WpC.seq ?_;refine WpC.gh (Gh.nilArr 3 1 (t:=13) (by simp) (by simp)) ?_
  refine WpC.gh (Gh.nilArr 3 1 (t:=14) (by simp) (by simp)) ?_
  refine qR (by simp -implicitDefEqProofs[dN,H]<;>rfl) ?_
  refine WpC.block ?_;refine WpC.loopK [2,9,10,12,36,37,38,42,43] [13,14,15,44] (n) (():Unit) (λk _=>[(13,.sl 2 (c k)),(14,.sl 3 (c k)),(15,.d (dI (sm k))),(44,.d (.int .i64 k))]) (λk _=>[.arr 3 1 (aA o n),.arr 3 1 (aA h n),.arr 3 1 (a k),.arr 3 1 (w k)]) (λk _=>True) (by simp -implicitDefEqProofs[dN,H]<;>rfl) (Gh.cut' [13,14,15,44,2,9,10,12,36,37,38,42,43] 4 (by simp -implicitDefEqProofs[hG.c0,hG.s0,hn,ht]) (by simp -implicitDefEqProofs[hG.a0,hG.w0,ho]) rfl (by simp) (by simp) (by simp)) (by simp) ?_
  rintro k ⟨⟩ hk hi;simp only[List.cons_append,List.nil_append];refine qR (by simp -implicitDefEqProofs[dN,H]<;>rfl) ?_
  refine WpC.seq (WpC.condD (k<n) (by simp -implicitDefEqProofs[dN,H]<;>omega) (λhlt=>?_) (λhge=>?_))
  ·refine WpC.skip ?_;have hkl:k<l.length:=by omega
   obtain⟨x,hx⟩:∃x,l[k]=x:=⟨_,rfl⟩
   have hPk:=hPi k hkl;have hWk:=hWi k hkl;rw[hx] at hPk hWk;have hkw:IntKind.i64.wrap ((k:Int)+1)=k+1:=am (by omega) (by omega)
   have hal:=hG.al k;have hwl:=hG.wl k;have hcl:=hG.cl k;have hcs:c k<=8589934591:=by omega
   have hwt:=yP x;have hsb:=hG.sb (k+1) (by omega)
   obtain⟨a1,ha1⟩:∃z,a k=z:=⟨_,rfl⟩
   obtain⟨w1',hw1⟩:∃z,w k=z:=⟨_,rfl⟩
   obtain⟨c1,hc1⟩:∃z,c k=z:=⟨_,rfl⟩
   obtain⟨s1,hs1⟩:∃z,sm k=z:=⟨_,rfl⟩
   rw[ha1,hc1] at hal;rw[hw1,hc1] at hwl;rw[hc1] at hcs;replace H:=And.intro hlt (And.intro hkl (And.intro hx (And.intro hkw (And.intro hal (And.intro hwl (And.intro hcs (And.intro ha1 (And.intro hw1 (And.intro hc1 (And.intro hs1 H))))))))));refine WpC.seq ?_;refine WpC.block ?_;iterate 2 refine qR (by simp -implicitDefEqProofs[dN,H]<;>rfl) ?_
   refine WpC.condD (x.pri=p) (by simp -implicitDefEqProofs[dN,H]) (λd52=>?_) (λd52=>?_)
   ·have hpp:P k=p:=hPk.trans d52;have hga:=hG.ay k hpp;have hgw:=hG.wy k hpp;have hgc:=hG.cy k hpp;have hgs:=hG.sy k hpp;rw[hgs] at hsb;rw[ha1] at hga;rw[hw1,hWk] at hgw;rw[hc1] at hgc;rw[hs1,hWk] at hgs hsb;have hsw:IntKind.i64.wrap (s1+x.want)=s1+x.want:=am (by omega) (by omega)
    replace H:=And.intro d52 (And.intro hsw H);refine WpC.drawn tabOk (by kernel_rfl) 4 (by simp) ?_
    refine DrO.run (fz:=[]) 3 (by simp -implicitDefEqProofs[dN,H]<;>first|exact⟨rfl,rfl,rfl,rfl⟩|rfl) ?_
    refine DrO.run (fz:=[]) 3 (by simp -implicitDefEqProofs[dN,H]<;>first|exact⟨rfl,rfl,rfl,rfl⟩|rfl) ?_
    refine DrO.data (by simp) rfl (by simp -implicitDefEqProofs[dN,H]<;>rfl) (by simp -implicitDefEqProofs[dN,H]<;>rfl) (by simp -implicitDefEqProofs[dN,H]<;>rfl) tO (hwt) (by rfl) (by simp -implicitDefEqProofs[dN,H]<;>rfl) ?_
    refine DrO.run (fz:=[]) 3 (by simp -implicitDefEqProofs[dN,H]<;>first|exact⟨rfl,rfl,rfl,rfl⟩|rfl) ?_
    refine DrO.run (fz:=[]) 1 (by simp -implicitDefEqProofs[dN,H]<;>first|exact⟨rfl,rfl,rfl,rfl⟩|rfl) ?_
    refine DrO.data (by simp) rfl (by simp -implicitDefEqProofs[dN,H]<;>rfl) (by simp -implicitDefEqProofs[dN,H]<;>rfl) (by simp -implicitDefEqProofs[dN,H]<;>rfl) tO (hwt) (by rfl) (by simp -implicitDefEqProofs[dN,H]<;>rfl) ?_
    refine DrO.run (fz:=[]) 3 (by simp -implicitDefEqProofs[dN,H]<;>first|exact⟨rfl,rfl,rfl,rfl⟩|rfl) ?_
    refine DrO.run (fz:=[]) 1 (by simp -implicitDefEqProofs[dN,H]<;>first|exact⟨rfl,rfl,rfl,rfl⟩|rfl) ?_
    refine DrO.nil ⟨by kernel_rfl,?_⟩
    refine qr (by simp -implicitDefEqProofs[dN,H]<;>rfl) ?_
    exact⟨hlt,(),trivial,Gh.pick [13,14,15,44,2,9,10,12,36,37,38,42,43] [0,1,6,8] (by simp -implicitDefEqProofs[dN,H,hga,hgw,hgc,hgs];rfl) (by simp -implicitDefEqProofs[dN,H,hga,hgw,hgc,hgs]) (by simp) (by simp) (by simp;rfl) (by simp -implicitDefEqProofs[dN,H,hga,hgw,hgc,hgs]) (by simp)⟩
   have hpp:¬P k=p:=λz=>d52 (hPk.symm.trans z)
   have hga:=hG.an k hpp;have hgw:=hG.wn k hpp;have hgc:=hG.cn k hpp;have hgs:=hG.sn k hpp;rw[ha1] at hga;rw[hw1] at hgw;rw[hc1] at hgc;rw[hs1] at hgs;replace H:=And.intro d52 H;refine WpC.skip ?_;refine qr (by simp -implicitDefEqProofs[dN,H]<;>rfl) ?_
   exact⟨hlt,(),trivial,Gh.cut' [13,14,15,44,2,9,10,12,36,37,38,42,43] 4 (by simp -implicitDefEqProofs[dN,H,hga,hgw,hgc,hgs]) (by simp -implicitDefEqProofs[dN,H,hga,hgw,hgc,hgs]) rfl (by simp) (by simp) (by simp)⟩
  refine WpC.exit ?_;have hkn:n=k:=by omega
  subst hkn;refine qR (by simp -implicitDefEqProofs[dN,H]<;>rfl) ?_
  refine WpC.seq ?_;have hae:=hG.ae;have hwe:=hG.we;have hce:=hG.ce;have hse:=hG.se;obtain⟨O2,S2,hR⟩:=prt g p o;have hwok:=pE g p;have hpn:pN A P W n p=if t<(wN P W n p).sum then spS t (wN P W n p) else wN P W n p:=by unfold pN;rw[hth]
  have hsE:t<(wN P W n p).sum->spE t (wN P W n p)=0:=λz=>hth▸wG g (hth.symm▸z)
  have hps:=(ma g p).2.2;rw[hth] at hps;have hOe:=hOn _ rfl;obtain⟨ats,hats⟩:∃z,atN P n p=z:=⟨_,rfl⟩
  obtain⟨ws,hws⟩:∃z,wN P W n p=z:=⟨_,rfl⟩
  obtain⟨pp,hpp⟩:∃z,pN A P W n p=z:=⟨_,rfl⟩
  rw[hats] at hae hce hR hOe;rw[hws] at hwe hse hpn hsE hps hwok;rw[hpp] at hR hpn hTn hps;have hal:=hG.al n;have hwl:=hG.wl n;rw[hce] at hal hwl;have hwl2:ws.length=ats.length:=by have:=hwl;rw[hwe] at this;simpa using this
  rw[hae,hwe,hce,hse];have hat8:ats.length<=8:=by rw[<-hats];exact Nat.le_trans (pw p) hn8
  refine WpC.gh (Gh.frz [2,3]) ?_;refine WpC.gh (Gh.view (t:=18) (x:= .sl 3 ats.length) (y:= .d (.list 1 (ws.map dI))) (by simp) (by simp -implicitDefEqProofs[hwl2])) ?_
  refine WpC.gh (Gh.view (t:=14) (x:= .sl 3 ats.length) (y:= .d (.list 1 (ws.map dI))) (by simp) (by simp -implicitDefEqProofs[hwl2])) ?_
  refine WpC.gh (Gh.view (t:=13) (x:= .sl 2 ats.length) (y:= .d (.list 1 (ats.map dN))) (by simp) (by simp -implicitDefEqProofs)) ?_
  have hat64:(ats.length:Int)<=8:=by omega
  replace H:=And.intro hwl2 H;refine qR (by simp -implicitDefEqProofs[dN,H]<;>rfl) ?_
  refine WpC.condD (t<ws.sum) (by simp -implicitDefEqProofs[dN,H]) (λd70=>?_) (λd70=>?_)
  ·have hpp2:pp=spS t ws:=by rw[hpn,if_pos d70]
   have hsp:=ul t ws (by unfold aC;omega) (λx hx=>by have:=hwok.2.1 x hx;unfold aC;omega) (by omega)
   rw[hsE d70,<-hpp2] at hsp;rw[if_pos d70] at hps;replace H:=And.intro d70 H;refine WpC.region ?_;refine WpO.run tabOk 2 (by simp -implicitDefEqProofs[dN,H]<;>first|exact⟨rfl,rfl⟩|rfl) ?_
   refine WpO.data (by simp) rfl (by simp -implicitDefEqProofs[dN,H]<;>rfl) (by simp -implicitDefEqProofs[dN,H]<;>rfl) (by simp -implicitDefEqProofs[dN,H]<;>rfl) Cv (by simp) (hsp) (by rfl) (by simp -implicitDefEqProofs[dN,H]<;>rfl) ?_
   refine WpO.run tabOk 4 (by simp -implicitDefEqProofs[dN,H]<;>first|exact⟨rfl,rfl⟩|rfl) ?_
   refine WpO.nil ?_;refine qR (by simp -implicitDefEqProofs[dN,H]<;>rfl) ?_
   refine WpC.block ?_;refine WpC.loopK [2,10,18,36,37,38,77,78] [9,79] (ats.length) (():Unit) (λk _=>[(9,.d (dI (t-S2 k))),(79,.d (.int .i64 k))]) (λk _=>[.arr 3 1 (aA (O2 k) n),.arr 3 1 (aA h n)]) (λk _=>True) (by simp -implicitDefEqProofs[dN,H]<;>rfl) (Gh.cut' [9,79,2,10,18,36,37,38,77,78] 2 (by simp -implicitDefEqProofs[hR.S0]) (by simp -implicitDefEqProofs[hR.O0]) rfl (by simp) (by simp) (by simp)) (by simp) ?_
   rintro k ⟨⟩ hk hi;simp only[List.cons_append,List.nil_append];refine qR (by simp -implicitDefEqProofs[dN,H]<;>rfl) ?_
   refine WpC.seq (WpC.condD (k<ats.length) (by simp -implicitDefEqProofs[dN,H]<;>omega) (λhlt=>?_) (λhge=>?_))
   ·refine WpC.skip ?_;have hkp:k<pp.length:=by rw[hR.len];exact hlt
    obtain⟨x,hx⟩:∃x,pp[k]=x:=⟨_,rfl⟩
    obtain⟨y,hy⟩:∃y,ats[k]=y:=⟨_,rfl⟩
    have hyn:=hR.lt k hlt;have hON:=hR.On k hlt hkp;have hSN:=hR.Sn k hkp;have hSb:=hR.Sb k;have hSb2:=hR.Sb (k+1);have hxb:=hR.pb k hkp;rw[hx,hy] at hON;rw[hx] at hSN hxb;rw[hy] at hyn;rw[hSN] at hSb2;have hsw:IntKind.i64.wrap (t-S2 k-x)=t-S2 (k+1):=by rw[hSN,am (by omega) (by omega)];omega
    have hkw:IntKind.i64.wrap ((k:Int)+1)=k+1:=am (by omega) (by omega)
    replace H:=And.intro hlt (And.intro hkp (And.intro hx (And.intro hy (And.intro hyn (And.intro hsw (And.intro hkw H))))));refine WpC.seq ?_;refine WpC.block ?_;iterate 2 refine qR (by simp -implicitDefEqProofs[dN,H]<;>rfl) ?_
    iterate 2 refine qr (by simp -implicitDefEqProofs[dN,H]<;>rfl) ?_
    exact⟨hlt,(),trivial,Gh.cut' [9,79,2,10,18,36,37,38,77,78] 2 (by simp -implicitDefEqProofs[dN,H,hON,dN]) (by simp -implicitDefEqProofs[dN,H,hON,dN]) rfl (by simp) (by simp) (by simp)⟩
   refine WpC.exit ?_;have hkn:k=ats.length:=by omega
   subst hkn;have hOE2:aA (O2 ats.length) n=aA (O (q+1)) n:=by rw[hR.Oe];exact hOe
   have hSE2:t-S2 ats.length=T (q+1):=by rw[hR.Se];exact hTn
   refine qr (by simp -implicitDefEqProofs[dN,H]<;>rfl) ?_
   exact⟨hlt,(),trivial,Gh.cut' [9,38,2,10,36,37] 2 (by simp -implicitDefEqProofs[dN,H,hOE2,hSE2]) (by simp -implicitDefEqProofs[dN,H,hOE2,hSE2]) rfl (by simp) (by simp) (by simp)⟩
  have hpp2:pp=ws:=by rw[hpn,if_neg d70]
  rw[if_neg d70] at hps;subst hpp2;replace H:=And.intro d70 H;refine WpC.skip ?_;refine qR (by simp -implicitDefEqProofs[dN,H]<;>rfl) ?_
  refine WpC.block ?_;refine WpC.loopK [2,10,18,36,37,38,77,78] [9,79] (ats.length) (():Unit) (λk _=>[(9,.d (dI (t-S2 k))),(79,.d (.int .i64 k))]) (λk _=>[.arr 3 1 (aA (O2 k) n),.arr 3 1 (aA h n)]) (λk _=>True) (by simp -implicitDefEqProofs[dN,H]<;>rfl) (Gh.cut' [9,79,2,10,18,36,37,38,77,78] 2 (by simp -implicitDefEqProofs[hR.S0]) (by simp -implicitDefEqProofs[hR.O0]) rfl (by simp) (by simp) (by simp)) (by simp) ?_
  rintro k ⟨⟩ hk hi;simp only[List.cons_append,List.nil_append];refine qR (by simp -implicitDefEqProofs[dN,H]<;>rfl) ?_
  refine WpC.seq (WpC.condD (k<ats.length) (by simp -implicitDefEqProofs[dN,H]<;>omega) (λhlt=>?_) (λhge=>?_))
  ·refine WpC.skip ?_;have hkp:k<pp.length:=by rw[hR.len];exact hlt
   obtain⟨x,hx⟩:∃x,pp[k]=x:=⟨_,rfl⟩
   obtain⟨y,hy⟩:∃y,ats[k]=y:=⟨_,rfl⟩
   have hyn:=hR.lt k hlt;have hON:=hR.On k hlt hkp;have hSN:=hR.Sn k hkp;have hSb:=hR.Sb k;have hSb2:=hR.Sb (k+1);have hxb:=hR.pb k hkp;rw[hx,hy] at hON;rw[hx] at hSN hxb;rw[hy] at hyn;rw[hSN] at hSb2;have hsw:IntKind.i64.wrap (t-S2 k-x)=t-S2 (k+1):=by rw[hSN,am (by omega) (by omega)];omega
   have hkw:IntKind.i64.wrap ((k:Int)+1)=k+1:=am (by omega) (by omega)
   replace H:=And.intro hlt (And.intro hkp (And.intro hx (And.intro hy (And.intro hyn (And.intro hsw (And.intro hkw H))))));refine WpC.seq ?_;refine WpC.block ?_;iterate 2 refine qR (by simp -implicitDefEqProofs[dN,H]<;>rfl) ?_
   iterate 2 refine qr (by simp -implicitDefEqProofs[dN,H]<;>rfl) ?_
   exact⟨hlt,(),trivial,Gh.cut' [9,79,2,10,18,36,37,38,77,78] 2 (by simp -implicitDefEqProofs[dN,H,hON,dN]) (by simp -implicitDefEqProofs[dN,H,hON,dN]) rfl (by simp) (by simp) (by simp)⟩
  refine WpC.exit ?_;have hkn:k=ats.length:=by omega
  subst hkn;have hOE2:aA (O2 ats.length) n=aA (O (q+1)) n:=by rw[hR.Oe];exact hOe
  have hSE2:t-S2 ats.length=T (q+1):=by rw[hR.Se];exact hTn
  refine qr (by simp -implicitDefEqProofs[dN,H]<;>rfl) ?_
  exact⟨hlt,(),trivial,Gh.cut' [9,38,2,10,36,37] 2 (by simp -implicitDefEqProofs[dN,H,hOE2,hSE2]) (by simp -implicitDefEqProofs[dN,H,hOE2,hSE2]) rfl (by simp) (by simp) (by simp)⟩
 refine WpC.exit ?_;have hkm:m=k:=by omega
 subst hkm;have hOm:=hI.Om;refine qR (by simp -implicitDefEqProofs[dN,H]<;>rfl) ?_
 refine WpC.ret ?_;try simp only[aa,aj]
 refine dB (by simp -implicitDefEqProofs[dN,H]<;>rfl) (by simp -implicitDefEqProofs[dN,H]<;>rfl) ?_
 rw[he0];simp[hOm]
theorem qi (L:List Int):L.map dI=aA (aQ L) L.length:=by
 refine List.ext_getElem (by simp[aA]) λi h1 h2=>?_
 rw[List.length_map] at h1;simp only[aA,List.getElem_map,List.getElem_range];rw[bO h1]
def bB (L:List Int):Int:=aJ (aQ L) L.length
theorem sF (L:List Int) (hn:L.length<=1000) (hf:∀n∈L,-2305843009213693<=n/\n<=2305843009213693):ah Tryz.prog 23 [.d (.list 1 (L.map dI))] (.d (dI (bB L))):=by
 rw[qi];refine Ay (aQ L) L.length hn λi hi=>?_
 rw[bO hi];exact hf _ (List.getElem_mem hi)
theorem ja {L:List Int} {B:Int} (hB:0<=B) (hf:∀n∈L,-B<=n/\n<=B): -(L.length*B:Int)<=bB L/\bB L<=L.length*B:=by
 have key:∀k,k<=L.length-> -(k*B:Int)<=aJ (aQ L) k/\aJ (aQ L) k<=k*B:=by
  intro k;induction k with
  |zero=>intro _;simp[aJ]
  |succ k ih=>
   intro hk;have h1:=ih (by omega)
   have h2:=hf _ (List.getElem_mem (show k<L.length by omega))
   rw[aO,bO (by omega)]
   have e:((k+1:Nat):Int)*B=k*B+B:=by rw[Int.natCast_add,Int.add_mul];simp
   rw[e];omega
 exact key L.length (Nat.le_refl _)
structure Rs where
 lines:List Ln
 raw:Sm
 extra:Sm
 taxable:Int
 tax:Int
 taken:Int
 held:Int
 net:Int
 short:Int
 paid:List Int
 owed:List Int
 garn:List Int
@[reducible] def Rs.cs (r:Rs):List D:=[.list 3 (r.lines.map Ln.enc),dI r.raw.gross,dI r.raw.pretax,dI r.raw.post,dI r.extra.gross,dI r.extra.pretax,dI r.extra.post,dI r.taxable,dI r.tax,dI r.taken,dI r.held,dI r.net,dI r.short,.list 1 (r.paid.map dI),.list 1 (r.owed.map dI),.list 1 (r.garn.map dI)]
@[reducible] def Rs.enc (r:Rs):D:= .agg r.cs
def fW:Rs:=⟨[],⟨0,0,0⟩,⟨0,0,0⟩,0,0,0,0,0,0,[],[],[]⟩
def d_ (net prot:Int) (l:List Ord):List Int:=if eO net prot l=0 then(List.range l.length).map (el (at0 (net-prot)) (jl l) (fC l) l.length) else []
theorem vS (net prot:Int) (l:List Ord):AD net prot l=(d_ net prot l).map dI:=by
 unfold AD d_;split
 ·rw[List.map_map];rfl
 ·rfl
theorem oP {net prot:Int} {l:List Ord} (h:eO net prot l=0):(d_ net prot l).length=l.length/\(∀n∈d_ net prot l,0<=n/\n<=1125899906842624):=by
 obtain⟨g,hw,_⟩:=gZ h;rw[d_,if_pos h];refine⟨by simp,λn hn=>?_⟩
 rw[List.mem_map] at hn;obtain⟨i,hi,rfl⟩:=hn;rw[List.mem_range] at hi;have h1:=oO g hi;have h2:=hw _ (List.getElem_mem hi);have h3:fC l i=(l[i]).want:=by rw[fC,List.getElem?_eq_getElem hi];rfl
 rw[h3] at h1;unfold Ord.want at h1;omega
@[reducible] def Hn (R:List Ru) (X:List Ex) (rows:List Rw) (funds:List Fd) (prot:Int):D:= .agg [aL R,aM X,iG rows,eF funds,dI prot]
def sv (y:Yr) (came:Yr) (lines:List Ln) (raw ex:Sm) (taxable prot:Int) (l:List Ord) (left:Int) (taken:Int):Rs:=
 ⟨lines,raw,ex,taxable,came.tax,taken,raw.post+ex.post-taken,max (left-taken-bB (d_ (left-taken) prot l)) 0,max (-(left-taken-bB (d_ (left-taken) prot l))) 0,came.paid,came.owed,d_ (left-taken) prot l⟩
def bs (came:Yr) (taxable:Int):Int:=taxable-came.tax-bB came.paid
def bY (came:Yr) (raw ex:Sm) (taxable:Int):Int:=min (raw.post+ex.post) (max (bs came taxable) 0)
def cv (R:List Ru) (X:List Ex) (rows:List Rw) (funds:List Fd) (prot:Int) (p:Inp) (ex:Sm) (y:Yr) (l:List Ord):Rs×Yr×Int:=
 if ((!dZ rows funds||decide (prot<0))||decide (1099511627776<prot))=true then(fW,av,1)
 else if (az R X p).2.2=0 then
  (if ((bJ ex.gross||bJ ex.pretax)||bJ ex.post)=true then(fW,av,3)
   else
    (if cd rows funds y ((az R X p).2.1.gross+ex.gross-(az R X p).2.1.pretax-ex.pretax) ((az R X p).2.1.gross+ex.gross)=0 then
     (if eO (bs (bH rows funds y ((az R X p).2.1.gross+ex.gross-(az R X p).2.1.pretax-ex.pretax) ((az R X p).2.1.gross+ex.gross)) ((az R X p).2.1.gross+ex.gross-(az R X p).2.1.pretax-ex.pretax)-bY (bH rows funds y ((az R X p).2.1.gross+ex.gross-(az R X p).2.1.pretax-ex.pretax) ((az R X p).2.1.gross+ex.gross)) (az R X p).2.1 ex ((az R X p).2.1.gross+ex.gross-(az R X p).2.1.pretax-ex.pretax)) prot l=0 then
      (sv y (bH rows funds y ((az R X p).2.1.gross+ex.gross-(az R X p).2.1.pretax-ex.pretax) ((az R X p).2.1.gross+ex.gross)) (az R X p).1 (az R X p).2.1 ex ((az R X p).2.1.gross+ex.gross-(az R X p).2.1.pretax-ex.pretax) prot l
       (bs (bH rows funds y ((az R X p).2.1.gross+ex.gross-(az R X p).2.1.pretax-ex.pretax) ((az R X p).2.1.gross+ex.gross)) ((az R X p).2.1.gross+ex.gross-(az R X p).2.1.pretax-ex.pretax))
       (bY (bH rows funds y ((az R X p).2.1.gross+ex.gross-(az R X p).2.1.pretax-ex.pretax) ((az R X p).2.1.gross+ex.gross)) (az R X p).2.1 ex ((az R X p).2.1.gross+ex.gross-(az R X p).2.1.pretax-ex.pretax)),
       gB rows funds y ((az R X p).2.1.gross+ex.gross-(az R X p).2.1.pretax-ex.pretax) ((az R X p).2.1.gross+ex.gross),0)
      else(fW,av,eO (bs (bH rows funds y ((az R X p).2.1.gross+ex.gross-(az R X p).2.1.pretax-ex.pretax) ((az R X p).2.1.gross+ex.gross)) ((az R X p).2.1.gross+ex.gross-(az R X p).2.1.pretax-ex.pretax)-bY (bH rows funds y ((az R X p).2.1.gross+ex.gross-(az R X p).2.1.pretax-ex.pretax) ((az R X p).2.1.gross+ex.gross)) (az R X p).2.1 ex ((az R X p).2.1.gross+ex.gross-(az R X p).2.1.pretax-ex.pretax)) prot l))
     else(fW,av,cd rows funds y ((az R X p).2.1.gross+ex.gross-(az R X p).2.1.pretax-ex.pretax) ((az R X p).2.1.gross+ex.gross))))
 else(fW,av,(az R X p).2.2)
theorem mi {R:List Ru} {X:List Ex} {p:Inp} (hv:∀x∈X,inE x) (hp:p.ok):(az R X p).2.1.near 60:=by
 unfold az;split
 ·rename_i h;obtain⟨htx,hl,_⟩:=mU hv hp h;have h60:=(iZ htx).2.1;have key:∀k o s,lnL R (fA R X p).1 k=some (o,s)->s.near k:=by
   intro k;induction k with
   |zero=>intro o s h;rw[lnL] at h;cases h;simp[Sm.near]
   |succ k ih=>
    intro o s h;rw[lnL] at h;cases hk:lnL R (fA R X p).1 k with
    |none=>rw[hk] at h;cases h
    |some q=>
     obtain⟨qo,qs⟩:=q;rw[hk] at h;have hq:=ih qo qs hk;simp only[lnS] at h;unfold Sm.near at hq ⊢;split at h
     ·cases h;first|omega|(simp only;omega)
     ·split at h
      ·cases h
      ·rename_i hf;have hb: -35184372088832<=aQ (fA R X p).1 k/\aQ (fA R X p).1 k<=35184372088832:=by
        simp[bJ] at hf;omega
       cases h;unfold lnK;split
       ·first|omega|(simp only;omega)
       ·split
        ·first|omega|(simp only;omega)
        ·split
         ·first|omega|(simp only;omega)
         ·first|omega|(simp only;omega)
  cases hk:lnL R (fA R X p).1 R.length with
  |none=>simp[lnR,Sm.near]
  |some q=>
   have:=key _ q.1 q.2 hk;simp only[lnR];unfold Sm.near at this ⊢;omega
 ·simp[Sm.near]
end Go.Proofs.YtlhmejigmokbhaaGreatDoor.Pay
