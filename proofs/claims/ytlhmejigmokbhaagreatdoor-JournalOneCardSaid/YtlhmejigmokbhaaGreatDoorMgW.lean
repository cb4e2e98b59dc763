/- The texts GaA, GaE, one behind the other. No statement of the seed is proved here. -/
import Derived.Test.YtlhmejigmokbhaaGreatDoorMgV
namespace Go.Proofs.YtlhmejigmokbhaaGreatDoor.Pay
open Go Go.RowKit
set_option linter.unusedVariables false
set_option linter.unusedSimpArgs false
set_option linter.unusedSectionVars false
def aJ (f:Nat->Int) (n:Nat):Int:=((List.range n).map f).sum
theorem aO (f:Nat->Int) (n:Nat):aJ f (n+1)=aJ f n+f n:=by
 unfold aJ;rw[List.range_succ,List.map_append,List.sum_append];simp
theorem ug (f:Nat->Int):aJ f 0=0:=rfl
theorem bv {f g:Nat->Int}:∀ {n:Nat},(∀i,i<n->f i=g i)->aJ f n=aJ g n
 |0,_=>rfl
 |n+1,h=>by rw[aO,aO,bv λi hi=>h i (by omega),h n (by omega)]
theorem lU (f g:Nat->Int):∀n:Nat,aJ (λi=>f i+g i) n=aJ f n+aJ g n
 |0=>rfl
 |n+1=>by rw[aO,aO,aO,lU f g n];omega
theorem oA {f g:Nat->Int}:∀ {n:Nat},(∀i,i<n->f i<=g i)->aJ f n<=aJ g n
 |0,_=>Int.le_refl _
 |n+1,h=>by
  have h1:=oA (n:=n) λi hi=>h i (by omega)
  have h2:=h n (by omega)
  rw[aO,aO];omega
theorem ii (n:Nat):aJ (λ_=>0) n=0:=by
 induction n with
 |zero=>rfl
 |succ n ih=>rw[aO,ih];rfl
theorem fF {f:Nat->Int} {n:Nat} (h:∀i,i<n->0<=f i):0<=aJ f n:=by
 have:=oA (f:=λ_=>0) (g:=f) h
 rw[ii] at this;exact this
theorem lT {f:Nat->Int} {b:Int} (hb:0<=b):∀ {n:Nat},(∀i,i<n->f i<=b)->aJ f n<=n*b
 |0,_=>by simp[ug]
 |n+1,h=>by
  have h1:=lT hb (n:=n) λi hi=>h i (by omega)
  have h2:=h n (by omega)
  rw[aO,Int.natCast_add,Int.add_mul];omega
theorem lQ (f:Nat->Int) (p:Nat->Bool):∀n:Nat,(((List.range n).filter p).map f).sum=aJ (λi=>if p i=true then f i else 0) n
 |0=>rfl
 |n+1=>by
  rw[aO,List.range_succ,List.filter_append,List.map_append,List.sum_append,lQ f p n];cases h:p n<;>simp[h]
def atN (P:Nat->Int) (n:Nat) (p:Int):List Nat:=(List.range n).filter λi=>decide (P i=p)
def wN (P W:Nat->Int) (n:Nat) (p:Int):List Int:=(atN P n p).map W
def Bt (P W:Nat->Int) (n:Nat) (p:Int):Int:=aJ (λi=>if P i<p then W i else 0) n
def at0 (x:Int):Int:=if x<0 then 0 else x
def thN (A:Int) (P W:Nat->Int) (n:Nat) (p:Int):Int:=at0 (A-Bt P W n p)
def pN (A:Int) (P W:Nat->Int) (n:Nat) (p:Int):List Int:=if thN A P W n p<(wN P W n p).sum then spS (thN A P W n p) (wN P W n p) else wN P W n p
def jm (P:Nat->Int) (i:Nat):Nat:=(atN P i (P i)).length
def el (A:Int) (P W:Nat->Int) (n i:Nat):Int:=((pN A P W n (P i))[jm P i]?).getD 0
section
variable {A:Int} {P W:Nat->Int} {n:Nat}
theorem jS (p:Int):atN P (n+1) p=if P n=p then atN P n p++[n] else atN P n p:=by
 unfold atN;rw[List.range_succ,List.filter_append];by_cases h:P n=p
 ·rw[if_pos h];simp[h]
 ·rw[if_neg h];simp[h]
theorem si (p:Int):wN P W (n+1) p=if P n=p then wN P W n p++[W n] else wN P W n p:=by
 unfold wN;rw[jS];split
 ·rw[List.map_append];rfl
 ·rfl
theorem jX (p:Int):(wN P W n p).length=(atN P n p).length:=by simp[wN]
theorem pw (p:Int):(atN P n p).length<=n:=by
 have:=List.length_filter_le (λi=>decide (P i=p)) (List.range n)
 simpa[atN] using this
theorem lD {p:Int} {i:Nat}:i∈atN P n p↔i<n/\P i=p:=by simp[atN]
theorem rv (p:Int):(wN P W n p).sum=aJ (λi=>if P i=p then W i else 0) n:=by
 unfold wN atN;rw[lQ];exact bv λi _=>by simp
theorem t6 {p:Int} {j i:Nat} (h:(atN P n p)[j]?=some i):i<n/\P i=p/\jm P i=j:=by
 induction n with
 |zero=>simp[atN] at h
 |succ n ih=>
  rw[jS] at h;by_cases hp:P n=p
  ·rw[if_pos hp] at h;by_cases hj:j<(atN P n p).length
   ·rw[List.getElem?_append_left hj] at h;obtain⟨h1,h2,h3⟩:=ih h;exact⟨by omega,h2,h3⟩
   ·rw[List.getElem?_append_right (by omega)] at h
    have:j-(atN P n p).length=0:=by
     rcases hz:j-(atN P n p).length with _|m
     ·rfl
     ·rw[hz] at h;simp at h
    rw[this] at h;simp at h;subst h;refine⟨by omega,hp,?_⟩
    unfold jm;rw[hp];omega
  ·rw[if_neg hp] at h;obtain⟨h1,h2,h3⟩:=ih h;exact⟨by omega,h2,h3⟩
theorem FL {i:Nat} (hi:i<n):(atN P n (P i))[jm P i]?=some i:=by
 have hm:i∈atN P n (P i):=lD.2 ⟨hi,rfl⟩;obtain⟨j,hj,e⟩:=List.getElem_of_mem hm;have h:=List.getElem?_eq_getElem hj;rw[e] at h;rw[(t6 h).2.2,h]
structure eJ (A:Int) (P W:Nat->Int) (n:Nat):Prop where
 A0:0<=A
 n8:n<=8
 w0:∀i,i<n->0<=W i
 wb:∀i,i<n->W i<=1125899906842624
theorem pE (g:eJ A P W n) (p:Int):(wN P W n p).length<=8/\(∀x∈wN P W n p,0<=x/\x<=1125899906842624)/\0<=(wN P W n p).sum/\(wN P W n p).sum<=9007199254740992:=by
 have h1:∀i,i<n->0<=(if P i=p then W i else 0)/\(if P i=p then W i else 0)<=1125899906842624:=λi hi=>by
  have:=g.w0 i hi;have:=g.wb i hi;split<;>omega
 refine⟨by rw[jX];exact Nat.le_trans (pw p) g.n8,λx hx=>?_,?_,?_⟩
 ·unfold wN at hx;obtain⟨i,hi,rfl⟩:=List.mem_map.1 hx;have hi:=(lD.1 hi).1;exact⟨g.w0 i hi,g.wb i hi⟩
 ·rw[rv];exact fF λi hi=>(h1 i hi).1
 ·rw[rv];have:=lT (b:=1125899906842624) (by decide) λi hi=>(h1 i hi).2
  have:=g.n8;omega
theorem px (x:Int):0<=at0 x:=by unfold at0;split<;>omega
theorem wG (g:eJ A P W n) {p:Int} (h:thN A P W n p<(wN P W n p).sum):spE (thN A P W n p) (wN P W n p)=0:=by
 obtain⟨h1,h2,h3,h4⟩:=pE g p;have:=px (A-Bt P W n p);unfold thN at h ⊢;rw[Fc (by omega) this λx hx=>(h2 x hx).1,if_neg (by omega),if_neg (by omega)]
theorem G9 {t s n i:Nat} {w:Nat->Nat} (hs:0<s) (hw:bm w n=s) (hts:t<s) (hi:i<n):ptN t s n w i<=w i:=by
 by_cases h0:w i=0
 ·rw[sP hs hw hi h0];omega
 ·have h1:t*w i/s<w i:=by
   rw[Nat.div_lt_iff_lt_mul hs,Nat.mul_comm];exact Nat.mul_lt_mul_of_pos_left hts (by omega)
  unfold ptN;split<;>omega
theorem ma (g:eJ A P W n) (p:Int):(pN A P W n p).length=(atN P n p).length/\(∀j (h:j<(pN A P W n p).length) (h':j<(wN P W n p).length),0<=(pN A P W n p)[j]/\(pN A P W n p)[j]<=(wN P W n p)[j])/\(pN A P W n p).sum=if thN A P W n p<(wN P W n p).sum then thN A P W n p else(wN P W n p).sum:=by
 obtain⟨h1,h2,h3,h4⟩:=pE g p;unfold pN;split
 ·rename_i h;have he:=wG g h;have hwh:=FP he;obtain⟨t,s,w,ha⟩:=DY he;have hpt:=vV he ha;refine⟨by rw[hwh.len,jX],λj hj hj'=>⟨hwh.pos j hj,?_⟩,hwh.sum⟩
  have hwj:(wN P W n p)[j]=(w j:Int):=by rw[<-ha.w_ j];unfold spW;rw[List.getElem?_eq_getElem hj'];rfl
  have hts:t<s:=by have:=ha.t_;have:=ha.s_;omega
  have hj2:(spS (thN A P W n p) (wN P W n p))[j]=(ptN t s (wN P W n p).length w j:Int):=by simp[hpt]
  rw[hwj,hj2];have:=G9 ha.s0 ha.sw hts hj';omega
 ·refine⟨jX p,λj hj hj'=>⟨(h2 _ (List.getElem_mem _)).1,Int.le_refl _⟩,rfl⟩
theorem A_ (g:eJ A P W n) {i:Nat} (hi:i<n):∃(h:jm P i<(pN A P W n (P i)).length) (h':jm P i<(wN P W n (P i)).length),el A P W n i=(pN A P W n (P i))[jm P i]/\W i=(wN P W n (P i))[jm P i]:=by
 have hat:=FL (P:=P) hi;have hlt:jm P i<(atN P n (P i)).length:=by
  rcases Nat.lt_or_ge (jm P i) (atN P n (P i)).length with h|h
  ·exact h
  ·rw[List.getElem?_eq_none h] at hat;simp at hat
 have h1:jm P i<(pN A P W n (P i)).length:=by rw[(ma g _).1];exact hlt
 have h2:jm P i<(wN P W n (P i)).length:=by rw[jX];exact hlt
 refine⟨h1,h2,by unfold el;rw[List.getElem?_eq_getElem h1];rfl,?_⟩
 have h3:(wN P W n (P i))[jm P i]?=some (W i):=by unfold wN;rw[List.getElem?_map,hat];rfl
 rw[List.getElem?_eq_getElem h2] at h3;exact(Option.some.inj h3).symm
theorem oO (g:eJ A P W n) {i:Nat} (hi:i<n):0<=el A P W n i/\el A P W n i<=W i:=by
 obtain⟨h1,h2,e1,e2⟩:=A_ g hi;have h3:=(ma g (P i)).2.1 (jm P i) h1 h2;rw[<-e1,<-e2] at h3;exact h3
structure Prs (P:Nat->Int) (n:Nat) (ps:List Int):Prop where
 up:∀i j (hi:i<ps.length) (hj:j<ps.length),i<j->ps[i]<ps[j]
 all:∀i,i<n->P i∈ps
 some:∀p∈ps,∃i,i<n/\P i=p
def ahS (P W:Nat->Int) (n:Nat) (ps:List Int) (k:Nat):Int:=aJ (λi=>if P i∈ps.take k then W i else 0) n
variable {ps:List Int}
theorem Prs.take (h:Prs P n ps) {k i:Nat} (hk:k<ps.length) (hi:i<n):P i∈ps.take k↔P i<ps[k]:=by
 constructor
 ·intro hm;obtain⟨j,hj,e⟩:=List.getElem_of_mem hm;rw[List.getElem_take] at e;rw[List.length_take] at hj;rw[<-e];exact h.up j k (by omega) hk (by omega)
 ·intro hlt;obtain⟨j,hj,e⟩:=List.getElem_of_mem (h.all i hi);have hjk:j<k:=by
   rcases Nat.lt_trichotomy j k with h1|h1|h1
   ·exact h1
   ·subst h1;omega
   ·have:=h.up k j hk hj h1;omega
  rw[<-e];exact List.mem_take_iff_getElem.2 ⟨j,by omega,rfl⟩
theorem Prs.low (h:Prs P n ps) {k:Nat} (hk:k<ps.length):ahS P W n ps k=Bt P W n ps[k]:=by
 unfold ahS Bt;refine bv λi hi=>?_
 have:=h.take hk hi;by_cases h1:P i<ps[k]
 ·rw[if_pos (this.2 h1),if_pos h1]
 ·rw[if_neg (λq=>h1 (this.1 q)),if_neg h1]
theorem ss {k:Nat} (hk:k<ps.length) {x:Int}:x∈ps.take (k+1)↔x∈ps.take k\/x=ps[k]:=by
 rw[List.take_add_one,List.getElem?_eq_getElem hk];simp only[Option.toList_some,List.mem_append,List.mem_singleton]
theorem Prs.not (h:Prs P n ps) {k:Nat} (hk:k<ps.length):¬ps[k]∈ps.take k:=λhm=>by
 obtain⟨j,hj,e⟩:=List.getElem_of_mem hm;rw[List.getElem_take] at e;rw[List.length_take] at hj;have:=h.up j k (by omega) hk (by omega)
 omega
theorem Prs.ahead (h:Prs P n ps) (f:Nat->Int) {k:Nat} (hk:k<ps.length):aJ (λi=>if P i∈ps.take (k+1) then f i else 0) n=aJ (λi=>if P i∈ps.take k then f i else 0) n+aJ (λi=>if P i=ps[k] then f i else 0) n:=by
 rw[<-lU];refine bv λi hi=>?_
 have h1:=ss hk (x:=P i);have h2:=h.not hk;by_cases e:P i=ps[k]
 ·rw[if_pos (h1.2 (.inr e)),if_pos e,if_neg (by rw[e];exact h2)];omega
 ·by_cases e2:P i∈ps.take k
  ·rw[if_pos (h1.2 (.inl e2)),if_pos e2,if_neg e];omega
  ·rw[if_neg (λq=>(h1.1 q).elim e2 e),if_neg e2,if_neg e];rfl
theorem He (g:eJ A P W n) (p:Int):(atN P n p).map (el A P W n)=pN A P W n p:=by
 apply List.ext_getElem?;intro j;rw[List.getElem?_map];cases h:(atN P n p)[j]? with
 |none=>
  rw[List.getElem?_eq_none_iff] at h;rw[List.getElem?_eq_none (by rw[(ma g p).1];exact h)];rfl
 |some i=>
  obtain⟨h1,h2,h3⟩:=t6 h;have hlt:j<(atN P n p).length:=by
   rcases Nat.lt_or_ge j (atN P n p).length with q|q
   ·exact q
   ·rw[List.getElem?_eq_none q] at h;simp at h
  have hlt2:j<(pN A P W n p).length:=by rw[(ma g p).1];exact hlt
  show some (el A P W n i)=_
  unfold el;rw[h2,h3,List.getElem?_eq_getElem hlt2];rfl
theorem wH (g:eJ A P W n) (p:Int):aJ (λi=>if P i=p then el A P W n i else 0) n=(pN A P W n p).sum:=by
 rw[<-He g p,atN,lQ];exact bv λi _=>by simp
theorem ot (g:eJ A P W n) (h:Prs P n ps) {k:Nat} (hk:k<ps.length):thN A P W n ps[k]=at0 (A-ahS P W n ps k)/\ahS P W n ps (k+1)=ahS P W n ps k+(wN P W n ps[k]).sum/\at0 (A-ahS P W n ps (k+1))=at0 (A-ahS P W n ps k)-(pN A P W n ps[k]).sum:=by
 have h1:thN A P W n ps[k]=at0 (A-ahS P W n ps k):=by unfold thN;rw[h.low hk]
 have h2:ahS P W n ps (k+1)=ahS P W n ps k+(wN P W n ps[k]).sum:=by rw[rv];exact h.ahead W hk
 refine⟨h1,h2,?_⟩;have h3:=(pE g ps[k]).2.2.1;rw[(ma g ps[k]).2.2,h2,h1];unfold at0;split<;>split<;>(try split)<;>omega
theorem A9 (g:eJ A P W n) (h:Prs P n ps):aJ (el A P W n) n=A-at0 (A-aJ W n):=by
 have key:∀k,k<=ps.length->aJ (λi=>if P i∈ps.take k then el A P W n i else 0) n=A-at0 (A-ahS P W n ps k):=λk=>by
  induction k with
  |zero=>
   intro _;have e1:aJ (λi=>if P i∈ps.take 0 then el A P W n i else 0) n=0:=(bv λi _=>by simp).trans (ii n)
   have e2:ahS P W n ps 0=0:=(bv λi _=>by simp).trans (ii n)
   rw[e1,e2];have:=g.A0;unfold at0;split<;>omega
  |succ k ih=>
   intro hk;rw[h.ahead _ hk,ih (by omega),wH g,(ot g h hk).2.2];omega
 have h1:=key ps.length (Nat.le_refl _);have e:∀f:Nat->Int,aJ (λi=>if P i∈ps.take ps.length then f i else 0) n=aJ f n:=λf=>bv λi hi=>by
  rw[List.take_of_length_le (Nat.le_refl _),if_pos (h.all i hi)]
 unfold ahS at h1;rw[e,e] at h1;exact h1
end
structure Ord where
 cred:Int
 pri:Int
 claim:Int
 bal:Int
def Ord.cs (o:Ord):List D:=[dI o.cred,dI o.pri,dI o.claim,dI o.bal]
def Ord.enc (o:Ord):D:= .agg o.cs
def dz (l:List Ord):D:= .list 4 (l.map Ord.enc)
attribute [simp] Ord.cs Ord.enc dz
def Ord.want (o:Ord):Int:=min o.claim o.bal
theorem yP (o:Ord):ah Tryz.prog 51 [.d o.enc] (.d (dI o.want)):=by
 refine ah.enter tabOk Tryz.func51 rfl (by show 1<=8;decide) ?_
 simp only[Tryz.f51];have H:=trivial;iterate 2 refine qR (by simp -implicitDefEqProofs[Ord.want,H]<;>rfl) ?_
 refine WpC.ret ?_;try simp only[aa,aj]
 refine dB (by simp -implicitDefEqProofs[Ord.want,H]<;>rfl) (by simp -implicitDefEqProofs[Ord.want,H]<;>rfl) ?_
 simp -implicitDefEqProofs[Ord.want,H]
theorem B4 (o:Ord):ah Tryz.prog 74 [.d o.enc] (.d (.bool (decide (o.claim<0\/o.bal<0)))):=by
 refine ah.enter tabOk Tryz.func74 rfl (by show 1<=11;decide) ?_
 simp only[Tryz.f74];have H:=trivial;refine zR ?_;refine WpC.seq ?_;refine WpC.region ?_;refine zO 4 ?_;refine zS 6 (λg6=>?_) (λg6=>?_)
 ·have g6':=zN g6;replace H:=And.intro g6 H;refine zO 5 ?_;refine WpO.nil ?_;refine WpC.ret ?_;try simp only[aa,aj]
  refine zE ?_;simp_all<;>omega
 have g6':=zN g6;replace H:=And.intro g6 H;refine zO 5 ?_;refine WpO.nil ?_;refine WpC.ret ?_;try simp only[aa,aj]
 refine zE ?_;simp_all<;>omega
theorem B3 (o:Ord):ah Tryz.prog 75 [.d o.enc] (.d (.bool (decide (1125899906842624<o.claim\/1125899906842624<o.bal)))):=by
 refine ah.enter tabOk Tryz.func75 rfl (by show 1<=11;decide) ?_
 simp only[Tryz.f75];have H:=trivial;refine zR ?_;refine WpC.seq ?_;refine WpC.region ?_;refine zO 4 ?_;refine zS 6 (λg6=>?_) (λg6=>?_)
 ·have g6':=zN g6;replace H:=And.intro g6 H;refine zO 5 ?_;refine WpO.nil ?_;refine WpC.ret ?_;try simp only[aa,aj]
  refine zE ?_;simp_all<;>omega
 have g6':=zN g6;replace H:=And.intro g6 H;refine zO 5 ?_;refine WpO.nil ?_;refine WpC.ret ?_;try simp only[aa,aj]
 refine zE ?_;simp_all<;>omega
theorem rR (l:List Ord) (hl:l.length<=1000000000):ah Tryz.prog 98 [.d (dz l),.fn 74 []] (.d (dI (bZ (λx:Ord=>decide (x.claim<0\/x.bal<0)) l))):=by
 obtain⟨f,hf⟩:∃f:Ord->Bool,(λx:Ord=>decide (x.claim<0\/x.bal<0))=f:=⟨_,rfl⟩
 have hff:∀x:Ord,decide (x.claim<0\/x.bal<0)=f x:=λx=>by rw[<-hf]
 rw[hf];refine ah.enter tabOk Tryz.func98 rfl (by show 2<=19;decide) ?_
 simp only[Tryz.f98];have H:=trivial;refine zR ?_;refine WpC.seq ?_;refine zR ?_;refine WpC.block ?_;refine WpC.loopK [0,1,7] [8] (l.length) (():Unit) (λk _=>[(8,.d (.int .i64 k))]) (λk _=>[]) (λk _=>(l.take k).any f=false) (by simp -implicitDefEqProofs[H]<;>rfl) (Gh.cut' [8,0,1,7] 0 (by simp -implicitDefEqProofs[H]) (by simp -implicitDefEqProofs[H]) rfl (by simp) (by simp) (by simp)) (by simp) ?_
 rintro k ⟨⟩ hk hi;simp only[List.cons_append,List.nil_append];refine zR ?_;refine WpC.seq (zL (k<l.length) (λhlt=>?_) (λhge=>?_))
 ·refine WpC.skip ?_;have hst:=cf f hlt;obtain⟨x,hx⟩:∃x,l[k]=x:=⟨_,rfl⟩
  have hw:IntKind.i64.wrap ((k:Int)+1)=k+1:=am (by omega) (by omega)
  have hfi:=cF f hlt hi;rw[hi,hx] at hst;rw[hx] at hfi;have hck:=B4 x;rw[hff] at hck;replace H:=And.intro hlt (And.intro hx (And.intro hw H));refine WpC.seq ?_;refine WpC.block ?_;refine zR ?_;refine WpC.seq ?_;refine WpC.region ?_;refine zO 5 ?_;refine zG Cj (hck) ?_;refine WpO.nil ?_;refine zC (λc16=>?_) (λc16=>?_)
  ·have c16':=zN c16;replace H:=And.intro c16 H;refine zR ?_;refine WpC.ret ?_;try simp only[aa,aj]
   refine zE ?_;have:=hfi (by simpa using c16)
   simp[bZ,this]
  have c16':=zN c16;replace H:=And.intro c16 H;refine WpC.skip ?_;refine zr ?_;exact⟨hlt,(),by rw[hst];simpa using c16,Gh.cut' [8,0,1,7] 0 (by simp -implicitDefEqProofs[H,c16']) (by simp) rfl (by simp) (by simp) (by simp)⟩
 refine WpC.exit ?_;have hkn:k=l.length:=by omega
 subst hkn;rw[List.take_of_length_le (Nat.le_refl _)] at hi;refine zR ?_;refine WpC.ret ?_;try simp only[aa,aj]
 refine zE ?_;have:l.findIdx? f=none:=by rw[List.findIdx?_eq_none_iff];simpa using hi
 simp[bZ,this]
theorem rQ (l:List Ord) (hl:l.length<=1000000000):ah Tryz.prog 98 [.d (dz l),.fn 75 []] (.d (dI (bZ (λx:Ord=>decide (1125899906842624<x.claim\/1125899906842624<x.bal)) l))):=by
 obtain⟨f,hf⟩:∃f:Ord->Bool,(λx:Ord=>decide (1125899906842624<x.claim\/1125899906842624<x.bal))=f:=⟨_,rfl⟩
 have hff:∀x:Ord,decide (1125899906842624<x.claim\/1125899906842624<x.bal)=f x:=λx=>by rw[<-hf]
 rw[hf];refine ah.enter tabOk Tryz.func98 rfl (by show 2<=19;decide) ?_
 simp only[Tryz.f98];have H:=trivial;refine zR ?_;refine WpC.seq ?_;refine zR ?_;refine WpC.block ?_;refine WpC.loopK [0,1,7] [8] (l.length) (():Unit) (λk _=>[(8,.d (.int .i64 k))]) (λk _=>[]) (λk _=>(l.take k).any f=false) (by simp -implicitDefEqProofs[H]<;>rfl) (Gh.cut' [8,0,1,7] 0 (by simp -implicitDefEqProofs[H]) (by simp -implicitDefEqProofs[H]) rfl (by simp) (by simp) (by simp)) (by simp) ?_
 rintro k ⟨⟩ hk hi;simp only[List.cons_append,List.nil_append];refine zR ?_;refine WpC.seq (zL (k<l.length) (λhlt=>?_) (λhge=>?_))
 ·refine WpC.skip ?_;have hst:=cf f hlt;obtain⟨x,hx⟩:∃x,l[k]=x:=⟨_,rfl⟩
  have hw:IntKind.i64.wrap ((k:Int)+1)=k+1:=am (by omega) (by omega)
  have hfi:=cF f hlt hi;rw[hi,hx] at hst;rw[hx] at hfi;have hck:=B3 x;rw[hff] at hck;replace H:=And.intro hlt (And.intro hx (And.intro hw H));refine WpC.seq ?_;refine WpC.block ?_;refine zR ?_;refine WpC.seq ?_;refine WpC.region ?_;refine zO 5 ?_;refine zG Ci (hck) ?_;refine WpO.nil ?_;refine zC (λc16=>?_) (λc16=>?_)
  ·have c16':=zN c16;replace H:=And.intro c16 H;refine zR ?_;refine WpC.ret ?_;try simp only[aa,aj]
   refine zE ?_;have:=hfi (by simpa using c16)
   simp[bZ,this]
  have c16':=zN c16;replace H:=And.intro c16 H;refine WpC.skip ?_;refine zr ?_;exact⟨hlt,(),by rw[hst];simpa using c16,Gh.cut' [8,0,1,7] 0 (by simp -implicitDefEqProofs[H,c16']) (by simp) rfl (by simp) (by simp) (by simp)⟩
 refine WpC.exit ?_;have hkn:k=l.length:=by omega
 subst hkn;rw[List.take_of_length_le (Nat.le_refl _)] at hi;refine zR ?_;refine WpC.ret ?_;try simp only[aa,aj]
 refine zE ?_;have:l.findIdx? f=none:=by rw[List.findIdx?_eq_none_iff];simpa using hi
 simp[bZ,this]
theorem nh (l:List Ord) (hl:l.length<=1000000000):ah Tryz.prog 73 [.d (dz l),.fn 74 []] (.d (.bool (l.any λx=>decide (x.claim<0\/x.bal<0)))):=by
 refine ah.enter tabOk Tryz.func73 rfl (by show 2<=9;decide) ?_
 simp only[Tryz.f73];have H:=trivial;refine zR ?_;refine WpC.seq ?_;refine WpC.region ?_;refine zO 2 ?_;refine zG tF (rR l hl) ?_;refine zO 2 ?_;refine WpO.nil ?_;refine WpC.ret ?_;try simp only[aa,aj]
 refine zE ?_;simp[<-dS]
theorem ng (l:List Ord) (hl:l.length<=1000000000):ah Tryz.prog 73 [.d (dz l),.fn 75 []] (.d (.bool (l.any λx=>decide (1125899906842624<x.claim\/1125899906842624<x.bal)))):=by
 refine ah.enter tabOk Tryz.func73 rfl (by show 2<=9;decide) ?_
 simp only[Tryz.f73];have H:=trivial;refine zR ?_;refine WpC.seq ?_;refine WpC.region ?_;refine zO 2 ?_;refine zG tF (rQ l hl) ?_;refine zO 2 ?_;refine WpO.nil ?_;refine WpC.ret ?_;try simp only[aa,aj]
 refine zE ?_;simp[<-dS]
def eO (net prot:Int) (l:List Ord):Int:=
 if 8<l.length then 9 else if prot<0\/(l.any λx=>decide (x.claim<0\/x.bal<0))=true then 1 else
  if (1125899906842624<net\/net< -1125899906842624)\/1125899906842624<prot\/(l.any λx=>decide (1125899906842624<x.claim\/1125899906842624<x.bal))=true then 3 else 0
theorem xV (net prot:Int) (l:List Ord) (hl:l.length<=1000000000):ah Tryz.prog 49 [.d (dI net),.d (dI prot),.d (dz l)] (.d (dI (eO net prot l))):=by
 have h1:=nh l hl;have h2:=ng l hl;unfold eO;obtain⟨b1,hb1⟩:∃b,(l.any λx=>decide (x.claim<0\/x.bal<0))=b:=⟨_,rfl⟩
 obtain⟨b2,hb2⟩:∃b,(l.any λx=>decide (1125899906842624<x.claim\/1125899906842624<x.bal))=b:=⟨_,rfl⟩
 rw[hb1] at h1 ⊢;rw[hb2] at h2 ⊢;refine ah.enter tabOk Tryz.func49 rfl (by show 3<=33;decide) ?_
 simp only[Tryz.f49];have H:=trivial;refine zR ?_;refine WpC.seq ?_;refine WpC.block ?_;refine zR ?_;refine zD ((8:Int)<l.length) (λd7=>?_) (λd7=>?_)
 ·replace H:=And.intro d7 H;refine zR ?_;refine WpC.ret ?_;try simp only[aa,aj]
  refine zE ?_;have:=d7;rw[if_pos (by omega)]
  simp
 replace H:=And.intro d7 H;refine WpC.seq ?_;refine WpC.val 11 (.d (.bool (decide (prot<0\/b1=true)))) ?_ ?_
 ·refine WpC.region ?_;refine zO 3 ?_;refine zS 14 (λg14=>?_) (λg14=>?_)
  ·have g14':=zN g14;replace H:=And.intro g14 H;refine zO 4 ?_;refine WpO.nil ?_;refine⟨rfl,Gh.only 11 8 ?_ (by first|rfl|simp -implicitDefEqProofs[H]) (by rfl)⟩
   simp -implicitDefEqProofs[H,g14']
  have g14':=zN g14;replace H:=And.intro g14 H;refine zO 1 ?_;refine zG tL (h1) ?_;refine zO 2 ?_;refine WpO.nil ?_;refine⟨rfl,Gh.only 11 8 ?_ (by first|rfl|simp -implicitDefEqProofs[H]) (by rfl)⟩
  simp -implicitDefEqProofs[H,g14']
 refine zD (prot<0\/b1=true) (λd11=>?_) (λd11=>?_)
 ·replace H:=And.intro d11 H;refine zR ?_;refine WpC.ret ?_;try simp only[aa,aj]
  refine zE ?_;have:=d7;rw[if_neg (by omega),if_pos d11]
  simp
 replace H:=And.intro d11 H;refine WpC.seq ?_;refine WpC.val 18 (.d (.bool (decide ((1125899906842624<net\/net< -1125899906842624)\/1125899906842624<prot\/b2=true)))) ?_ ?_
 ·refine WpC.region ?_;refine zO 3 ?_;refine zS 21 (λg21=>?_) (λg21=>?_)
  ·have g21':=zN g21;replace H:=And.intro g21 H;refine zO 12 ?_;refine WpO.nil ?_;refine⟨rfl,Gh.only 18 16 ?_ (by first|rfl|simp -implicitDefEqProofs[H]) (by rfl)⟩
   simp -implicitDefEqProofs[H,g21']
  have g21':=zN g21;replace H:=And.intro g21 H;refine zO 4 ?_;refine zS 25 (λg25=>?_) (λg25=>?_)
  ·have g25':=zN g25;replace H:=And.intro g25 H;refine zO 8 ?_;refine WpO.nil ?_;refine⟨rfl,Gh.only 18 17 ?_ (by first|rfl|simp -implicitDefEqProofs[H]) (by rfl)⟩
   simp -implicitDefEqProofs[H,g21',g25']
  have g25':=zN g25;replace H:=And.intro g25 H;refine zO 4 ?_;refine zS 29 (λg29=>?_) (λg29=>?_)
  ·have g29':=zN g29;replace H:=And.intro g29 H;refine zO 4 ?_;refine WpO.nil ?_;refine⟨rfl,Gh.only 18 18 ?_ (by first|rfl|simp -implicitDefEqProofs[H]) (by rfl)⟩
   simp -implicitDefEqProofs[H,g21',g25',g29']
  have g29':=zN g29;replace H:=And.intro g29 H;refine zO 1 ?_;refine zG tL (h2) ?_;refine zO 2 ?_;refine WpO.nil ?_;refine⟨rfl,Gh.only 18 18 ?_ (by first|rfl|simp -implicitDefEqProofs[H]) (by rfl)⟩
  simp -implicitDefEqProofs[H,g21',g25',g29']
 refine zD ((1125899906842624<net\/net< -1125899906842624)\/1125899906842624<prot\/b2=true) (λd18=>?_) (λd18=>?_)
 ·replace H:=And.intro d18 H;refine zR ?_;refine WpC.ret ?_;try simp only[aa,aj]
  refine zE ?_;have:=d7;rw[if_neg (by omega),if_neg d11,if_pos d18]
  simp
 replace H:=And.intro d18 H;refine WpC.skip ?_;refine zR ?_;refine WpC.ret ?_;try simp only[aa,aj]
 refine zE ?_;have:=d7;rw[if_neg (by omega),if_neg d11,if_neg d18]
 simp
def jl (l:List Ord) (i:Nat):Int:=((l[i]?).map Ord.pri).getD 0
def fC (l:List Ord) (i:Nat):Int:=((l[i]?).map Ord.want).getD 0
theorem l5 (f:Nat->Int) (k:Nat):aA f (k+1)=aA f k++[dI (f k)]:=by simp[aA,List.range_succ]
theorem Fo {l:List Ord} {h h2:Nat->Int} {n m:Nat} (hn:l.length=n) (hm:Mv 0 n (jl l) h) (hr:Rch 0 n (jl l) h) (hk:f_ h h2 n m):Prs (jl l) n ((List.range m).map h2):=by
 refine⟨λi j hi hj hij=>?_,λi hi=>?_,λp hp=>?_⟩
 ·simp only[List.length_map,List.length_range] at hi hj;simp only[List.getElem_map,List.getElem_range];exact hk.up i j hij hj
 ·obtain⟨j,_,hj,e⟩:=hr i (Nat.zero_le _) hi;obtain⟨q,hq,e2⟩:=hk.all j hj;rw[<-e,<-e2];exact List.mem_map.2 ⟨q,List.mem_range.2 hq,rfl⟩
 ·obtain⟨q,hq,rfl⟩:=List.mem_map.1 hp;obtain⟨j,hj,e⟩:=hk.some q (List.mem_range.1 hq);obtain⟨i,_,hi,e2⟩:=hm.src j (Nat.zero_le _) hj;exact⟨i,hi,by rw[e,e2]⟩
set_option maxHeartbeats 4000000 in
theorem wA (l:List Ord) (n:Nat) (hn:l.length=n) (hl:n<=12):WpF Tryz.prog 50 [.d (dz l)] [] λr S=>∃h m,m<=n/\r= .sl 0 m/\S=[.arr 3 1 (aA h n)]/\Prs (jl l) n ((List.range m).map h):=by
 have hso:=AJ (jl l) n hl;obtain⟨pf,hpf⟩:∃pf,jl l=pf:=⟨_,rfl⟩
 have hpi:∀i (h:i<l.length),pf i=l[i].pri:=λi h=>by rw[<-hpf];unfold jl;rw[List.getElem?_eq_getElem h];rfl
 rw[hpf] at hso;have hz0:aA pf 0=[]:=rfl;refine WpF.enter tabOk Tryz.func50 rfl (by show 1<=22;decide) ?_
 simp only[Tryz.f50];have H:=And.intro hn hz0;iterate 2 refine zR ?_
 refine WpC.seq ?_;refine WpC.gh (Gh.nilArr 3 1 (t:=3) (by simp) (by simp)) ?_
 refine zR ?_;refine WpC.block ?_;refine WpC.loopK [6,7] [3,8] (n) (():Unit) (λk _=>[(3,.sl 0 k),(8,.d (.int .i64 k))]) (λk _=>[.arr 3 1 (aA pf k)]) (λk _=>True) (by simp -implicitDefEqProofs[H]<;>rfl) (Gh.cut' [3,8,6,7] 1 (by simp -implicitDefEqProofs[H]) (by simp -implicitDefEqProofs[H]) rfl (by simp) (by simp) (by simp)) (by simp) ?_
 rintro k ⟨⟩ hk hi;simp only[List.cons_append,List.nil_append];refine zR ?_;refine WpC.seq (zL (k<n) (λhlt=>?_) (λhge=>?_))
 ·refine WpC.skip ?_;have hkl:k<l.length:=by omega
  obtain⟨x,hx⟩:∃x,l[k]=x:=⟨_,rfl⟩
  have hpx:=hpi k hkl;rw[hx] at hpx;have hra:=l5 pf k;rw[hpx] at hra;have hkw:IntKind.i64.wrap ((k:Int)+1)=k+1:=am (by omega) (by omega)
  have hks:k<=8589934591:=by omega
  replace H:=And.intro hlt (And.intro hkl (And.intro hx (And.intro hkw (And.intro hks H))));refine WpC.seq ?_;refine WpC.block ?_;refine zR ?_;iterate 2 refine zr ?_
  exact⟨hlt,(),trivial,Gh.pick [3,8,6,7] [3] (by simp -implicitDefEqProofs[H,hra];rfl) (by simp -implicitDefEqProofs[H,hra]) (by simp) (by simp) (by simp;rfl) (by simp -implicitDefEqProofs[H,hra]) (by simp)⟩
 refine WpC.exit ?_;have hkn:n=k:=by omega
 subst hkn;refine WpC.seq ?_;refine WpC.region ?_;refine zO 1 ?_;refine WpO.callP [0] (by simp) rfl (by simp -implicitDefEqProofs[H]<;>rfl) (by simp -implicitDefEqProofs[H]<;>rfl) Ch (by simp) (by simp) (by simp) (by simp -implicitDefEqProofs[H]) (by simp;rfl) (by simp -implicitDefEqProofs[H]) (hso) λr S1 hr=>?_
 obtain⟨h,rfl,rfl,m1,m2,t1⟩:=hr;refine⟨_,by simp -implicitDefEqProofs[H]<;>rfl,?_⟩
 refine WpO.nil ?_;refine WpC.seq ?_;have hcp:=r7 h n hl t1;refine WpC.region ?_;refine zO 1 ?_;refine WpO.callP [0] (by simp) rfl (by simp -implicitDefEqProofs[H]<;>rfl) (by simp -implicitDefEqProofs[H]<;>rfl) Cg (by simp) (by simp) (by simp) (by simp -implicitDefEqProofs[H]) (by simp;rfl) (by simp -implicitDefEqProofs[H]) (hcp) λr S1 hr=>?_
 obtain⟨h2,m,hm,rfl,rfl,hk2⟩:=hr;refine⟨_,by simp -implicitDefEqProofs[H]<;>rfl,?_⟩
 refine zO 1 ?_;refine WpO.nil ?_;refine WpC.ret ?_;refine⟨.inr rfl,_,by simp -implicitDefEqProofs<;>rfl,?_,by simp⟩
 exact⟨h2,m,hm,rfl,rfl,by rw[hpf];exact hpf▸Fo hn (hpf.symm▸m1) (hpf.symm▸m2) hk2⟩
def Jl (o:Ord) (p:Int):Ord:=⟨o.cred,o.pri,o.claim,o.bal-p⟩
def DR (l:List Ord) (i:Nat):Ord:=(l[i]?).getD ⟨0,0,0,0⟩
def aQ (l:List Int) (i:Nat):Int:=(l[i]?).getD 0
def Hc (l:List Ord) (ps:List Int) (k:Nat):List Ord:=(List.range l.length).map λi=>if i<k then Jl (DR l i) (aQ ps i) else DR l i
theorem bO {l:List Int} {i:Nat} (h:i<l.length):aQ l i=l[i]:=by unfold aQ;rw[List.getElem?_eq_getElem h];rfl
@[simp] theorem Hb (l:List Ord) (ps:List Int) (k:Nat):(Hc l ps k).length=l.length:=by simp[Hc]
end Go.Proofs.YtlhmejigmokbhaaGreatDoor.Pay
