/- The texts SpA, SpB, GaC, one behind the other. No statement of the seed is proved here. -/
import Derived.Test.YtlhmejigmokbhaaGreatDoorMgO
namespace Go.Proofs.YtlhmejigmokbhaaGreatDoor.Pay
open Go Go.RowKit
set_option linter.unusedVariables false
set_option linter.unusedSimpArgs false
structure Mv (a b:Nat) (g h:Nat->Int):Prop where
 out:∀i,i<a\/b<=i->h i=g i
 src:∀i,a<=i->i<b->∃j,a<=j/\j<b/\h i=g j
 inj:(∀i j,a<=i->i<b->a<=j->j<b->g i=g j->i=j)->∀i j,a<=i->i<b->a<=j->j<b->h i=h j->i=j
theorem Mv.refl (a b:Nat) (g:Nat->Int):Mv a b g g:=⟨λ_ _=>rfl,λi h1 h2=>⟨i,h1,h2,rfl⟩,λh=>h⟩
theorem Mv.trans {a b:Nat} {g h k:Nat->Int} (x:Mv a b g h) (y:Mv a b h k):Mv a b g k:=
 ⟨λi hi=>(y.out i hi).trans (x.out i hi),λi h1 h2=>by
  obtain⟨j,j1,j2,e⟩:=y.src i h1 h2;obtain⟨l,l1,l2,e2⟩:=x.src j j1 j2;exact⟨l,l1,l2,e.trans e2⟩,λh=>y.inj (x.inj h)⟩
theorem Mv.wide {a b a' b':Nat} {g h:Nat->Int} (x:Mv a b g h) (h1:a'<=a) (h2:b<=b'):Mv a' b' g h:=
 ⟨λi hi=>x.out i (by omega),λi i1 i2=>by
  by_cases hi:a<=i/\i<b
  ·obtain⟨j,j1,j2,e⟩:=x.src i hi.1 hi.2;exact⟨j,by omega,by omega,e⟩
  ·exact⟨i,i1,i2,x.out i (by omega)⟩,λhg i j i1 i2 j1 j2 e=>by
  have hin:=x.inj λi j a1 a2 a3 a4 e=>hg i j (by omega) (by omega) (by omega) (by omega) e
  by_cases hi:a<=i/\i<b
  ·by_cases hj:a<=j/\j<b
   ·exact hin i j hi.1 hi.2 hj.1 hj.2 e
   ·obtain⟨k,k1,k2,e2⟩:=x.src i hi.1 hi.2;rw[e2,x.out j (by omega)] at e
    have:=hg k j (by omega) (by omega) j1 j2 e
    omega
  ·by_cases hj:a<=j/\j<b
   ·obtain⟨k,k1,k2,e2⟩:=x.src j hj.1 hj.2;rw[e2,x.out i (by omega)] at e
    have:=hg i k i1 i2 (by omega) (by omega) e
    omega
   ·rw[x.out i (by omega),x.out j (by omega)] at e
    exact hg i j i1 i2 j1 j2 e⟩
theorem Mv.of {a b:Nat} {g h:Nat->Int} (σ:Nat->Nat) (h0:∀i,h i=g (σ i)) (h1:∀i,i<a\/b<=i->σ i=i) (h2:∀i,a<=i->i<b->a<=σ i/\σ i<b) (h3:∀i j,a<=i->i<b->a<=j->j<b->σ i=σ j->i=j):Mv a b g h:=
 ⟨λi hi=>by rw[h0,h1 i hi],λi i1 i2=>⟨σ i,(h2 i i1 i2).1,(h2 i i1 i2).2,h0 i⟩,λhg i j i1 i2 j1 j2 e=>by
  rw[h0,h0] at e;exact h3 i j i1 i2 j1 j2 (hg _ _ (h2 i i1 i2).1 (h2 i i1 i2).2 (h2 j j1 j2).1 (h2 j j1 j2).2 e)⟩
def sw (g:Nat->Int) (i j:Nat):Nat->Int:=upd (upd g i (g j)) j (g i)
theorem gA (g:Nat->Int) (i j k:Nat):sw g i j k=if k=j then g i else if k=i then g j else g k:=rfl
theorem Mv.sw {a b i j:Nat} (g:Nat->Int) (h1:a<=i) (h2:i<b) (h3:a<=j) (h4:j<b):Mv a b g (sw g i j):=
 Mv.of (λk=>if k=j then i else if k=i then j else k) (λk=>by
  rw[gA];by_cases e1:k=j
  ·simp[e1]
  ·by_cases e2:k=i
   ·simp[e1,e2];split<;>rfl
   ·simp[e1,e2]) (λk hk=>by rw[if_neg (by omega),if_neg (by omega)]) (λk k1 k2=>by split<;>(try split)<;>omega) (λk l k1 k2 l1 l2 e=>by
  split at e<;>split at e<;>(try split at e)<;>(try split at e)<;>omega)
def swR (g:Nat->Int) (a b c:Nat):Nat->Int:=λi=>if a<=i/\i<a+c then g (b+(i-a)) else if b<=i/\i<b+c then g (a+(i-b)) else g i
theorem vK (g:Nat->Int) (a b:Nat):swR g a b 0=g:=by
 funext i
 unfold swR;rw[if_neg (by omega),if_neg (by omega)]
theorem vL (g:Nat->Int) {a b c:Nat} (h:a+c<b):sw (swR g a b c) (a+c) (b+c)=swR g a b (c+1):=by
 funext i
 rw[gA];unfold swR;by_cases e1:i=b+c
 ·subst e1;rw[if_pos rfl,if_neg (by omega),if_neg (by omega),if_neg (by omega),if_pos (by omega)]
  congr 1;omega
 ·rw[if_neg e1];by_cases e2:i=a+c
  ·subst e2;rw[if_pos rfl,if_neg (by omega),if_neg (by omega),if_pos (by omega)]
   congr 1;omega
  ·rw[if_neg e2];by_cases e3:a<=i/\i<a+c
   ·rw[if_pos e3,if_pos (by omega)]
   ·rw[if_neg e3,if_neg (c:=a<=i/\i<a+(c+1)) (by omega)]
    by_cases e4:b<=i/\i<b+c
    ·rw[if_pos e4,if_pos (by omega)]
    ·rw[if_neg e4,if_neg (by omega)]
section
variable (cT cS:Int) (cW cP:List D)
theorem fS (g:Nat->Int) (n a b c:Nat) (h1:a+c<=b) (h2:b+c<=n) (hn:n<=1000000):
 WpF Tryz.prog 193 [.sl 0 n,.d (dI a),.d (dI b),.d (dI c),.fn 83 [.dp [dI cT],.dp [dI cS],.dp [.list 1 cW],.dp [.list 1 cP]]] [.arr 3 1 (aA g n)]
  λr S=>r= .tup []/\S=[.arr 3 1 (aA (swR g a b c) n)]:=by
 have hz:=vK g a b;refine WpF.enter tabOk Tryz.func193 rfl (by show 5<=38;decide) ?_
 simp only[Tryz.f193];have H:=hz;refine zR ?_;refine WpC.block ?_;refine WpC.loopK [0,1,2,3] [10] (c) (():Unit) (λk _=>[(10,.d (.int .i64 k))]) (λk _=>[.arr 3 1 (aA (swR g a b k) n)]) (λk _=>True) (by simp -implicitDefEqProofs[H]<;>rfl) (Gh.cut' [10,0,1,2,3] 1 (by simp -implicitDefEqProofs[H]) (by simp -implicitDefEqProofs[H]) rfl (by simp) (by simp) (by simp)) (by trivial) ?_
 rintro k ⟨⟩ hk hi;simp only[List.cons_append,List.nil_append];refine WpC.seq ?_;refine zR ?_;refine zL (k<c) (λhlt=>?_) (λhge=>?_)
 ·refine WpC.skip ?_;have hst:=vL g (a:=a) (b:=b) (c:=k) (by omega)
  obtain⟨h,hh⟩:∃h,swR g a b k=h:=⟨_,rfl⟩
  obtain⟨p,hp⟩:∃p,a+k=p:=⟨_,rfl⟩
  obtain⟨q,hq⟩:∃q,b+k=q:=⟨_,rfl⟩
  have hw1:IntKind.i64.wrap ((a:Int)+k)=p:=by rw[am (by omega) (by omega)];omega
  have hw2:IntKind.i64.wrap ((b:Int)+k)=q:=by rw[am (by omega) (by omega)];omega
  have hw:IntKind.i64.wrap ((k:Int)+1)=k+1:=am (by omega) (by omega)
  have hpn:p<n:=by omega
  have hqn:q<n:=by omega
  rw[hh,hp,hq] at hst;unfold sw at hst;replace H:=And.intro hlt (And.intro hh (And.intro hw (And.intro hw1 (And.intro hw2 (And.intro hpn (And.intro hqn H))))));refine WpC.seq ?_;refine WpC.block ?_;refine WpC.drawn tabOk (by kernel_rfl) 0 (by simp) ?_
  iterate 8 refine yO 3 ?_
  refine DrO.nil ⟨by kernel_rfl,?_⟩
  refine zr ?_;exact⟨hlt,(),trivial,Gh.cut' [10,0,1,2,3] 1 (by simp -implicitDefEqProofs[H,hst]) (by simp -implicitDefEqProofs[H,hst]) rfl (by simp) (by simp) (by simp)⟩
 refine WpC.exit ?_;have hkn:k=c:=by omega
 subst hkn;refine⟨.inl rfl,[],rfl,?_,by simp⟩
 exact⟨rfl,rfl⟩
end
def rot (g:Nat->Int) (a m b:Nat):Nat->Int:=λi=>if a<=i/\i<a+(b-m) then g (m+(i-a)) else if a+(b-m)<=i/\i<b then g (i-(b-m)) else g i
theorem Fk (g:Nat->Int) {a m b:Nat} (h1:a<=m) (h2:m<=b):Mv a b g (rot g a m b):=
 Mv.of (λi=>if a<=i/\i<a+(b-m) then m+(i-a) else if a+(b-m)<=i/\i<b then i-(b-m) else i) (λi=>by
  unfold rot;split
  ·rfl
  ·split<;>rfl) (λk hk=>by rw[if_neg (by omega),if_neg (by omega)]) (λk k1 k2=>by split<;>(try split)<;>omega) (λk l k1 k2 l1 l2 e=>by
  split at e<;>split at e<;>(try split at e)<;>(try split at e)<;>omega)
theorem wu (g:Nat->Int) {m i:Nat} (h:i<=m):swR g (m-i) m i=rot g (m-i) m (m+i):=by
 funext k
 unfold swR rot;rw[show m-i+i=m from by omega,show m+i-m=i from by omega,show m-i+i=m from by omega]
 by_cases e1:m-i<=k/\k<m
 ·rw[if_pos e1,if_pos e1]
 ·rw[if_neg e1,if_neg e1];by_cases e2:m<=k/\k<m+i
  ·rw[if_pos e2,if_pos e2];congr 1;omega
  ·rw[if_neg e2,if_neg e2]
theorem DP {g:Nat->Int} {a b c i j:Nat} (h:a<=i/\i<a+c) (e:b+(i-a)=j):swR g a b c i=g j:=by unfold swR;rw[if_pos h,e]
theorem DO {g:Nat->Int} {a b c i j:Nat} (h1:¬(a<=i/\i<a+c)) (h2:b<=i/\i<b+c) (e:a+(i-b)=j):swR g a b c i=g j:=by unfold swR;rw[if_neg h1,if_pos h2,e]
theorem sB {g:Nat->Int} {a b c i:Nat} (h1:¬(a<=i/\i<a+c)) (h2:¬(b<=i/\i<b+c)):swR g a b c i=g i:=by unfold swR;rw[if_neg h1,if_neg h2]
theorem nF {g:Nat->Int} {a m b i j:Nat} (h:a<=i/\i<a+(b-m)) (e:m+(i-a)=j):rot g a m b i=g j:=by unfold rot;rw[if_pos h,e]
theorem nE {g:Nat->Int} {a m b i j:Nat} (h1:¬(a<=i/\i<a+(b-m))) (h2:a+(b-m)<=i/\i<b) (e:i-(b-m)=j):rot g a m b i=g j:=by unfold rot;rw[if_neg h1,if_pos h2,e]
theorem nD {g:Nat->Int} {a m b i:Nat} (h1:¬(a<=i/\i<a+(b-m))) (h2:¬(a+(b-m)<=i/\i<b)):rot g a m b i=g i:=by unfold rot;rw[if_neg h1,if_neg h2]
theorem wt (g:Nat->Int) {m i j:Nat} (h:i<=m) (hij:j<i):rot (swR g (m-i) m j) (m-(i-j)) m (m+j)=rot g (m-i) m (m+j):=by
 funext k
 by_cases e1:m-(i-j)<=k/\k<m-(i-j)+j
 ·rw[nF (j:=m+(k-(m-(i-j)))) (by omega) rfl,DO (j:=k-j) (by omega) (by omega) (by omega),nE (j:=k-j) (by omega) (by omega) (by omega)]
 ·by_cases e2:m-(i-j)+j<=k/\k<m+j
  ·rw[nE (j:=k-j) (by omega) (by omega) (by omega),sB (by omega) (by omega),nE (j:=k-j) (by omega) (by omega) (by omega)]
  ·rw[nD (by omega) (by omega)]
   by_cases e3:m-i<=k/\k<m-i+j
   ·rw[DP e3 rfl,nF (by omega) rfl]
   ·rw[sB e3 (by omega),nD (by omega) (by omega)]
theorem uv (g:Nat->Int) {m i j:Nat} (h:i<=m) (hij:i<j):rot (swR g (m-i) (m+j-i) i) (m-i) m (m+(j-i))=rot g (m-i) m (m+j):=by
 funext k
 by_cases e1:m-i<=k/\k<m-i+(j-i)
 ·rw[nF (j:=m+(k-(m-i))) (by omega) rfl,nF (g:=g) (j:=m+(k-(m-i))) (by omega) rfl,sB (by omega) (by omega)]
 ·by_cases e2:m-i+(j-i)<=k/\k<m+(j-i)
  ·rw[nE (j:=k-(j-i)) (by omega) (by omega) (by omega)]
   rw[DP (j:=m+(k-(m-i))) (by omega) (by omega),nF (g:=g) (j:=m+(k-(m-i))) (by omega) rfl]
  ·rw[nD (by omega) (by omega)]
   by_cases e3:m+j-i<=k/\k<m+j-i+i
   ·rw[DO (j:=k-j) (by omega) e3 (by omega),nE (j:=k-j) (by omega) (by omega) (by omega)]
   ·rw[sB (by omega) e3,nD (by omega) (by omega)]
section
variable (cT cS:Int) (cW cP:List D)
theorem uu (g:Nat->Int) (n a m b:Nat) (h1:a<m) (h2:m<b) (h3:b<=n) (hn:n<=1000000):
 WpF Tryz.prog 176 [.sl 0 n,.d (dI a),.d (dI m),.d (dI b),.fn 83 [.dp [dI cT],.dp [dI cS],.dp [.list 1 cW],.dp [.list 1 cP]]] [.arr 3 1 (aA g n)]
  λr S=>r= .tup []/\S=[.arr 3 1 (aA (rot g a m b) n)]:=by
 have hi1:IntKind.i64.wrap ((m:Int)-a)=((m-a:Nat):Int):=by rw[am (by omega) (by omega)];omega
 have hj1:IntKind.i64.wrap ((b:Int)-m)=((b-m:Nat):Int):=by rw[am (by omega) (by omega)];omega
 refine WpF.enter tabOk Tryz.func176 rfl (by show 5<=58;decide) ?_
 simp only[Tryz.f176];have H:=And.intro hi1 hj1;iterate 2 refine zR ?_
 refine WpC.seq ?_;refine WpC.block ?_;refine WpC.loopM [0,2,4] [10,11] (λx=>x.1+x.2.1) ((m-a,b-m,g):Nat×Nat×(Nat->Int)) (λx=>[(10,.d (dI (x.1:Nat))),(11,.d (dI (x.2.1:Nat)))]) (λx=>[.arr 3 1 (aA x.2.2 n)]) (λx=>0<x.1/\0<x.2.1/\x.1<=m/\m+x.2.1<=n/\rot x.2.2 (m-x.1) m (m+x.2.1)=rot g a m b) (by simp -implicitDefEqProofs[H]<;>rfl) (Gh.cut' [10,11,0,2,4] 1 (by simp -implicitDefEqProofs[H]) (by simp -implicitDefEqProofs[H]) rfl (by simp) (by simp) (by simp)) (⟨by simp;omega,by simp;omega,by simp,by simp;omega,by simp only;congr 1<;>omega⟩) ?_
 rintro x hi;simp only[List.cons_append,List.nil_append];obtain⟨i,j,h⟩:=x;obtain⟨h4,h5,h6,h7,h8⟩:=hi;simp only at h4 h5 h6 h7 h8 ⊢;refine WpC.seq ?_;refine zR ?_;refine zC (λc20=>?_) (λc20=>?_)
 ·have c20':=zN c20;replace H:=And.intro c20 H;refine WpC.skip ?_;refine WpC.block ?_;refine zR ?_;refine zC (λc23=>?_) (λc23=>?_)
  ·have c23':=zN c23;have hij:j<i:=by simpa using c23
   have hw1:IntKind.i64.wrap ((m:Int)-i)=((m-i:Nat):Int):=by rw[am (by omega) (by omega)];omega
   have hw2:IntKind.i64.wrap ((i:Int)-j)=((i-j:Nat):Int):=by rw[am (by omega) (by omega)];omega
   have hc:=fS cT cS cW cP h n (m-i) m j (by omega) (by omega) hn
   replace H:=And.intro c23 (And.intro hw1 (And.intro hw2 H));refine WpC.seq ?_;refine WpC.region ?_;refine zO 7 ?_;refine zP [0] mG (hc) ?_;refine WpO.nil ?_;refine zr ?_;exact⟨(i-j,j,swR h (m-i) m j),⟨by simp;omega,h5,by simp;omega,h7,by rw[<-h8];exact wt h h6 hij⟩,by simp;omega,Gh.cut' [10,11,0,2,4] 1 (by simp -implicitDefEqProofs[H,c20',c23']) (by simp -implicitDefEqProofs[H,c20',c23']) rfl (by simp) (by simp) (by simp)⟩
  have c23':=zN c23;have hij:¬j<i:=by simpa using c23
  have hij2:i<j:=by simp at c20;omega
  have hw1:IntKind.i64.wrap ((m:Int)-i)=((m-i:Nat):Int):=by rw[am (by omega) (by omega)];omega
  have hw2:IntKind.i64.wrap ((j:Int)-i)=((j-i:Nat):Int):=by rw[am (by omega) (by omega)];omega
  have hw3:IntKind.i64.wrap ((m:Int)+j)=((m+j:Nat):Int):=by rw[am (by omega) (by omega)];omega
  have hw4:IntKind.i64.wrap (((m+j:Nat):Int)-i)=((m+j-i:Nat):Int):=by rw[am (by omega) (by omega)];omega
  have hw5:IntKind.i64.wrap ((m:Int)+j-i)=((m+j-i:Nat):Int):=by rw[am (by omega) (by omega)];omega
  have hc:=fS cT cS cW cP h n (m-i) (m+j-i) i (by omega) (by omega) hn
  replace H:=And.intro c23 (And.intro hw1 (And.intro hw2 (And.intro hw3 (And.intro hw4 (And.intro hw5 H)))));refine WpC.seq ?_;refine WpC.region ?_;refine zO 11 ?_;refine zP [0] mG (hc) ?_;refine WpO.nil ?_;refine zr ?_;exact⟨(i,j-i,swR h (m-i) (m+j-i) i),⟨h4,by simp;omega,h6,by simp;omega,by rw[<-h8];exact uv h h6 hij2⟩,by simp;omega,Gh.cut' [10,11,0,2,4] 1 (by simp -implicitDefEqProofs[H,c20',c23']) (by simp -implicitDefEqProofs[H,c20',c23']) rfl (by simp) (by simp) (by simp)⟩
 have c20':=zN c20;replace H:=And.intro c20 H;refine WpC.exit ?_;have hij:i=j:=by simp at c20;omega
 subst hij;have hw1:IntKind.i64.wrap ((m:Int)-i)=((m-i:Nat):Int):=by rw[am (by omega) (by omega)];omega
 have hc:=fS cT cS cW cP h n (m-i) m i (by omega) (by omega) hn
 rw[wu h h6,h8] at hc;replace H:=And.intro hw1 H;refine WpC.region ?_;refine zO 7 ?_;refine zP [0] mG (hc) ?_;refine WpO.nil ?_;refine⟨.inl rfl,[],rfl,?_,by simp⟩
 exact⟨rfl,rfl⟩
end
structure Cmp (c:Int->Int->Int) (ok:Int->Prop):Prop where
 asym:∀x y,ok x->ok y->c x y<0->¬c y x<0
 tr:∀x y z,ok x->ok y->ok z->c x y<0->c y z<0->c x z<0
 tot:∀x y,ok x->ok y->x≠y->c x y<0\/c y x<0
section
variable {c:Int->Int->Int} {ok:Int->Prop}
theorem Cmp.le (h:Cmp c ok) {x y z:Int} (hx:ok x) (hy:ok y) (hz:ok z) (h1:¬c y x<0) (h2:¬c z y<0):¬c z x<0:=λh3=>by
 by_cases e:x=y
 ·subst e;exact h2 h3
 ·have:=(h.tot x y hx hy e).resolve_right h1;exact h2 (h.tr z x y hz hx hy h3 this)
def bz (c:Int->Int->Int) (g:Nat->Int) (a b:Nat):Prop:=∀i j,a<=i->i<j->j<b->¬c (g j) (g i)<0
def eK (ok:Int->Prop) (g:Nat->Int) (n:Nat):Prop:=∀i,i<n->ok (g i)
theorem Mv.okk {a b n:Nat} {g h:Nat->Int} (x:Mv a b g h) (hb:b<=n) (hg:eK ok g n):eK ok h n:=λi hi=>by
 by_cases hab:a<=i/\i<b
 ·obtain⟨j,j1,j2,e⟩:=x.src i hab.1 hab.2;rw[e];exact hg j (by omega)
 ·rw[x.out i (by omega)];exact hg i hi
structure vg (c:Int->Int->Int) (h:Nat->Int) (a i j:Nat):Prop where
 A:∀p q,a<=p->p<q->q<=i->p≠j->q≠j->¬c (h q) (h p)<0
 B:∀q,j<q->q<=i->¬c (h q) (h j)<0
theorem nU {h:Nat->Int} {a i:Nat} (hs:bz c h a i):vg c h a i i:=⟨λp q h1 h2 h3 h4 h5=>hs p q h1 h2 (by omega),λq h1 h2=>by omega⟩
theorem qv (hc:Cmp c ok) {h:Nat->Int} {n a i j q:Nat} (hq:j-1=q) (hok:eK ok h n) (hj:j<n) (hi:vg c h a i j) (haj:a<j) (hji:j<=i) (hlt:c (h j) (h q)<0):vg c (sw h j q) a i q:=by
 have hqj:q+1=j:=by omega
 refine⟨λp r h1 h2 h3 h4 h5=>?_,λr h1 h2=>?_⟩
 ·rw[gA,gA,if_neg h5,if_neg h4];by_cases e1:r=j
  ·rw[if_pos e1,if_neg (by omega)]
   exact hi.A p q h1 (by omega) (by omega) (by omega) (by omega)
  ·rw[if_neg e1];by_cases e2:p=j
   ·rw[if_pos e2];exact hi.A q r (by omega) (by omega) h3 (by omega) e1
   ·rw[if_neg e2];exact hi.A p r h1 h2 h3 e2 e1
 ·rw[gA,gA,if_neg (by omega),if_pos rfl]
  by_cases e1:r=j
  ·rw[if_pos e1];exact hc.asym _ _ (hok j hj) (hok q (by omega)) hlt
  ·rw[if_neg e1];exact hi.B r (by omega) h2
theorem tf (hc:Cmp c ok) {h:Nat->Int} {n a i j q:Nat} (hq:j-1=q) (hok:eK ok h n) (hin:i<n) (hi:vg c h a i j) (hji:j<=i) (hx:¬(a<j/\c (h j) (h q)<0)):bz c h a (i+1):=λp r h1 h2 h3=>by
 by_cases e1:p=j
 ·subst e1;exact hi.B r h2 (by omega)
 ·by_cases e2:r=j
  ·subst e2;have h4:¬c (h r) (h q)<0:=λq=>hx ⟨by omega,q⟩
   by_cases e3:p=q
   ·subst e3;exact h4
   ·exact hc.le (hok p (by omega)) (hok q (by omega)) (hok r (by omega)) (hi.A p q h1 (by omega) (by omega) e1 (by omega)) h4
  ·exact hi.A p r h1 h2 (by omega) e1 e2
end
section
variable (cT cS:Int) (cW cP:List D) {c:Int->Int->Int} {ok:Int->Prop} (hcm:Cmp c ok)
 (hcc:∀x y,ok x->ok y->ah Tryz.prog 83 [.d (dI x),.d (dI y),.dp [dI cT],.dp [dI cS],.dp [.list 1 cW],.dp [.list 1 cP]] (.d (dI (c x y))))
include hcm hcc
set_option maxHeartbeats 4000000 in
theorem mq (g:Nat->Int) (n a b:Nat) (h1:a<=b) (h2:b<=n) (hn:n<=1000000) (hok:eK ok g n):
 WpF Tryz.prog 141 [.sl 0 n,.d (dI a),.d (dI b),.fn 83 [.dp [dI cT],.dp [dI cS],.dp [.list 1 cW],.dp [.list 1 cP]]] [.arr 3 1 (aA g n)]
  λr S=>∃h,r= .tup []/\S=[.arr 3 1 (aA h n)]/\Mv a b g h/\bz c h a b:=by
 have hw0:IntKind.i64.wrap ((a:Int)+1)=((a+1:Nat):Int):=by rw[am (by omega) (by omega)];omega
 refine WpF.enter tabOk Tryz.func141 rfl (by show 4<=53;decide) ?_
 simp only[Tryz.f141];have H:=hw0;refine zR ?_;refine WpC.block ?_;refine WpC.loopM [0,1,2,3] [8] (λx=>b-x.1) ((a+1,g):Nat×(Nat->Int)) (λx=>[(8,.d (dI (x.1:Nat)))]) (λx=>[.arr 3 1 (aA x.2 n)]) (λx=>a+1<=x.1/\x.1<=b+1/\Mv a b g x.2/\bz c x.2 a x.1) (by simp -implicitDefEqProofs[H]<;>rfl) (Gh.cut' [8,0,1,2,3] 1 (by simp -implicitDefEqProofs[H]) (by simp -implicitDefEqProofs[H]) rfl (by simp) (by simp) (by simp)) (⟨by simp,by simp;omega,Mv.refl _ _ _,λi j i1 i2 i3=>by simp at i3;omega⟩) ?_
 rintro x hi;simp only[List.cons_append,List.nil_append];obtain⟨i,h⟩:=x;obtain⟨h3,h4,h5,h6⟩:=hi;simp only at h3 h4 h5 h6 ⊢;refine WpC.seq ?_;refine zR ?_;refine zC (λc14=>?_) (λc14=>?_)
 ·have c14':=zN c14;have hib:i<b:=by simpa using c14
  have hw1:IntKind.i64.wrap ((i:Int)+1)=((i+1:Nat):Int):=by rw[am (by omega) (by omega)];omega
  replace H:=And.intro c14 (And.intro hw1 H);refine WpC.skip ?_;refine WpC.seq ?_;refine WpC.block ?_;refine zR ?_;refine WpC.block ?_;refine WpC.loopM [0,1,2,3,8] [9] (λy=>y.1) ((i,h):Nat×(Nat->Int)) (λy=>[(9,.d (dI (y.1:Nat)))]) (λy=>[.arr 3 1 (aA y.2 n)]) (λy=>a<=y.1/\y.1<=i/\Mv a b g y.2/\vg c y.2 a i y.1) (by simp -implicitDefEqProofs[H]<;>rfl) (Gh.cut' [9,0,1,2,3,8] 1 (by simp -implicitDefEqProofs[H]) (by simp -implicitDefEqProofs[H]) rfl (by simp) (by simp) (by simp)) (⟨by simp;omega,by simp,h5,nU h6⟩) ?_
  rintro y hi;simp only[List.cons_append,List.nil_append];obtain⟨j,h'⟩:=y;obtain⟨h3',h4',h5',h6'⟩:=hi;simp only at h3' h4' h5' h6' ⊢;obtain⟨q,hq⟩:∃q,j-1=q:=⟨_,rfl⟩
  have hok':=h5'.okk h2 hok;have hjn:j<n:=by omega
  have hqn:q<n:=by omega
  refine WpC.seq ?_;refine WpC.seq ?_;refine WpC.val 34 (.d (.bool (decide (a<j/\c (h' j) (h' q)<0)))) ?_ ?_
  ·refine WpC.drawn tabOk (by kernel_rfl) 0 (by simp) ?_
   refine yO 3 ?_;refine yO 1 ?_;refine yS 21 (λg21=>?_) (λg21=>?_)
   ·have g21':=zN g21;have hw2:IntKind.i64.wrap ((j:Int)-1)=(q:Int):=by simp at g21;rw[am (by omega) (by omega)];omega
    replace H:=And.intro g21 (And.intro hw2 (And.intro hjn (And.intro hqn H)));iterate 3 refine yO 3 ?_
    refine yO 1 ?_;refine yG lp (hcc (h' j) (h' q) (hok' j hjn) (hok' q hqn)) ?_;refine yO 2 ?_;refine DrO.nil ⟨by kernel_rfl,?_⟩
    refine⟨rfl,Gh.only 34 17 ?_ (by first|rfl|simp -implicitDefEqProofs[H]) (by rfl)⟩
    simp -implicitDefEqProofs[H,g21']
   have g21':=zN g21;replace H:=And.intro g21 H;iterate 4 refine yO 3 ?_
   refine yO 1 ?_;refine DrO.nil ⟨by kernel_rfl,?_⟩
   refine⟨rfl,Gh.only 34 17 ?_ (by first|rfl|simp -implicitDefEqProofs[H]) (by rfl)⟩
   simp -implicitDefEqProofs[H,g21']
  refine zD (a<j/\c (h' j) (h' q)<0) (λd34=>?_) (λd34=>?_)
  ·have hw2:IntKind.i64.wrap ((j:Int)-1)=(q:Int):=by rw[am (by omega) (by omega)];omega
   replace H:=And.intro d34 (And.intro hw2 (And.intro hjn (And.intro hqn H)));refine WpC.skip ?_;refine WpC.seq ?_;refine WpC.block ?_;refine WpC.drawn tabOk (by kernel_rfl) 0 (by simp) ?_
   iterate 6 refine yO 3 ?_
   refine DrO.nil ⟨by kernel_rfl,?_⟩
   refine zr ?_;exact⟨(q,sw h' j q),⟨by simp;omega,by simp;omega,h5'.trans (Mv.sw _ (by omega) (by omega) (by omega) (by omega)),qv hcm hq hok' hjn h6' d34.1 h4' d34.2⟩,by simp;omega,Gh.cut' [9,0,1,2,3,8] 1 (by simp -implicitDefEqProofs[H,c14',sw]) (by simp -implicitDefEqProofs[H,c14',sw]) rfl (by simp) (by simp) (by simp)⟩
  have hsr:=tf hcm hq hok' (by omega) h6' h4' d34
  replace H:=And.intro d34 H;refine WpC.exit ?_;refine zr ?_;exact⟨(i+1,h'),⟨by simp;omega,by simp;omega,h5',hsr⟩,by simp;omega,Gh.cut' [8,0,1,2,3] 1 (by simp -implicitDefEqProofs[H,c14']) (by simp -implicitDefEqProofs[H,c14']) rfl (by simp) (by simp) (by simp)⟩
 have c14':=zN c14;replace H:=And.intro c14 H;refine WpC.exit ?_;refine⟨.inl rfl,[],rfl,?_,by simp⟩
 exact⟨h,rfl,rfl,h5,λp r p1 p2 p3=>h6 p r p1 p2 (by simp at c14;omega)⟩
end
set_option linter.unusedSectionVars false
theorem qu (x:Int):ah Tryz.prog 175 [.d (dI x)] (.d (.bool false)):=by
 refine ah.enter tabOk Tryz.func175 rfl (by show 1<=6;decide) ?_
 simp only[Tryz.f175];have H:=trivial;iterate 2 refine zR ?_
 refine WpC.ret ?_;try simp only[aa,aj]
 refine zE ?_;simp -implicitDefEqProofs[H]
theorem xU (x y:Int):ah Tryz.prog 135 [.d (dI x),.d (dI y)] (.d (.bool (decide (x<y)))):=by
 refine ah.enter tabOk Tryz.func135 rfl (by show 2<=17;decide) ?_
 simp only[Tryz.f135];have H:=trivial;refine zR ?_;refine WpC.seq ?_;refine WpC.region ?_;refine zO 1 ?_;refine zG qU (qu x) ?_;refine zO 1 ?_;refine zS 7 (λg7=>?_) (λg7=>?_)
 ·try(exfalso;revert g7;simp;done)
  all_goals
   have g7':=zN g7;replace H:=And.intro g7 H;refine zO 1 ?_;refine zG qU (qu y) ?_;refine zO 3 ?_;refine zS 12 (λg12=>?_) (λg12=>?_)
   ·try(exfalso;revert g12;simp;done)
    all_goals
     have g12':=zN g12;replace H:=And.intro g12 H;refine zO 5 ?_;refine WpO.nil ?_;refine WpC.ret ?_;try simp only[aa,aj]
     refine zE ?_;simp -implicitDefEqProofs[H]
   ·try(exfalso;revert g12;simp;done)
    all_goals
     have g12':=zN g12;replace H:=And.intro g12 H;refine zO 5 ?_;refine WpO.nil ?_;refine WpC.ret ?_;try simp only[aa,aj]
     refine zE ?_;simp -implicitDefEqProofs[H]
 ·try(exfalso;revert g7;simp;done)
  all_goals
   have g7':=zN g7;replace H:=And.intro g7 H;refine zO 10 ?_;refine WpO.nil ?_;refine WpC.ret ?_;try simp only[aa,aj]
   refine zE ?_;simp -implicitDefEqProofs[H]
def Rch (a b:Nat) (g h:Nat->Int):Prop:=∀i,a<=i->i<b->∃j,a<=j/\j<b/\h j=g i
theorem Rch.refl (a b:Nat) (g:Nat->Int):Rch a b g g:=λi h1 h2=>⟨i,h1,h2,rfl⟩
theorem Rch.trans {a b:Nat} {g h k:Nat->Int} (x:Rch a b g h) (y:Rch a b h k):Rch a b g k:=λi h1 h2=>by
 obtain⟨j,j1,j2,e⟩:=x i h1 h2;obtain⟨l,l1,l2,e2⟩:=y j j1 j2;exact⟨l,l1,l2,e2.trans e⟩
theorem Rch.sw {a b i j:Nat} (g:Nat->Int) (h1:a<=i) (h2:i<b) (h3:a<=j) (h4:j<b):Rch a b g (sw g i j):=λk k1 k2=>by
 by_cases e1:k=i
 ·exact⟨j,h3,h4,by rw[gA,if_pos rfl,e1]⟩
 ·by_cases e2:k=j
  ·exact⟨i,h1,h2,by rw[gA,if_pos rfl,e2];split<;>simp_all⟩
  ·exact⟨k,k1,k2,by rw[gA,if_neg e2,if_neg e1]⟩
def cI (x y:Int):Int:=x-y
theorem yF:Cmp cI λ_=>True:=⟨λx y _ _ h=>by unfold cI at*;omega,λx y z _ _ _ h1 h2=>by unfold cI at*;omega,λx y _ _ h=>by unfold cI;omega⟩
theorem rh (x y:Int):cI x y<0↔x<y:=by unfold cI;omega
set_option maxHeartbeats 4000000 in
theorem BA (g:Nat->Int) (n a b:Nat) (h1:a<=b) (h2:b<=n) (hn:n<=1000000):
 WpF Tryz.prog 129 [.sl 0 n,.d (dI a),.d (dI b)] [.arr 3 1 (aA g n)]
  λr S=>∃h,r= .tup []/\S=[.arr 3 1 (aA h n)]/\Mv a b g h/\Rch a b g h/\bz cI h a b:=by
 have hw0:IntKind.i64.wrap ((a:Int)+1)=((a+1:Nat):Int):=by rw[am (by omega) (by omega)];omega
 refine WpF.enter tabOk Tryz.func129 rfl (by show 3<=49;decide) ?_
 simp only[Tryz.f129];have H:=hw0;refine zR ?_;refine WpC.block ?_;refine WpC.loopM [0,1,2] [6] (λx=>b-x.1) ((a+1,g):Nat×(Nat->Int)) (λx=>[(6,.d (dI (x.1:Nat)))]) (λx=>[.arr 3 1 (aA x.2 n)]) (λx=>a+1<=x.1/\x.1<=b+1/\Mv a b g x.2/\Rch a b g x.2/\bz cI x.2 a x.1) (by simp -implicitDefEqProofs[H]<;>rfl) (Gh.cut' [6,0,1,2] 1 (by simp -implicitDefEqProofs[H]) (by simp -implicitDefEqProofs[H]) rfl (by simp) (by simp) (by simp)) (⟨by simp,by simp;omega,Mv.refl _ _ _,Rch.refl _ _ _,λi j i1 i2 i3=>by simp at i3;omega⟩) ?_
 rintro x hi;simp only[List.cons_append,List.nil_append];obtain⟨i,h⟩:=x;obtain⟨h3,h4,h5,h7,h6⟩:=hi;simp only at h3 h4 h5 h6 h7 ⊢;refine WpC.seq ?_;refine zR ?_;refine zC (λc12=>?_) (λc12=>?_)
 ·have c12':=zN c12;have hib:i<b:=by simpa using c12
  have hw1:IntKind.i64.wrap ((i:Int)+1)=((i+1:Nat):Int):=by rw[am (by omega) (by omega)];omega
  replace H:=And.intro c12 (And.intro hw1 H);refine WpC.skip ?_;refine WpC.seq ?_;refine WpC.block ?_;refine zR ?_;refine WpC.block ?_;refine WpC.loopM [0,1,2,6] [7] (λy=>y.1) ((i,h):Nat×(Nat->Int)) (λy=>[(7,.d (dI (y.1:Nat)))]) (λy=>[.arr 3 1 (aA y.2 n)]) (λy=>a<=y.1/\y.1<=i/\Mv a b g y.2/\Rch a b g y.2/\vg cI y.2 a i y.1) (by simp -implicitDefEqProofs[H]<;>rfl) (Gh.cut' [7,0,1,2,6] 1 (by simp -implicitDefEqProofs[H]) (by simp -implicitDefEqProofs[H]) rfl (by simp) (by simp) (by simp)) (⟨by simp;omega,by simp,h5,h7,nU h6⟩) ?_
  rintro y hi;simp only[List.cons_append,List.nil_append];obtain⟨j,h'⟩:=y;obtain⟨h3',h4',h5',h7',h6'⟩:=hi;simp only at h3' h4' h5' h6' h7' ⊢;obtain⟨q,hq⟩:∃q,j-1=q:=⟨_,rfl⟩
  have hok':eK (λ_=>True) h' n:=λ_ _=>trivial
  have hjn:j<n:=by omega
  have hqn:q<n:=by omega
  refine WpC.seq ?_;refine WpC.seq ?_;refine WpC.val 30 (.d (.bool (decide (a<j/\h' j<h' q)))) ?_ ?_
  ·refine WpC.drawn tabOk (by kernel_rfl) 0 (by simp) ?_
   refine yO 3 ?_;refine yO 1 ?_;refine yS 19 (λg19=>?_) (λg19=>?_)
   ·have g19':=zN g19;have hw2:IntKind.i64.wrap ((j:Int)-1)=(q:Int):=by simp at g19;rw[am (by omega) (by omega)];omega
    replace H:=And.intro g19 (And.intro hw2 (And.intro hjn (And.intro hqn H)));iterate 3 refine yO 3 ?_
    refine yG yn (xU (h' j) (h' q)) ?_;refine yO 1 ?_;refine DrO.nil ⟨by kernel_rfl,?_⟩
    refine⟨rfl,Gh.only 30 15 ?_ (by first|rfl|simp -implicitDefEqProofs[H]) (by rfl)⟩
    simp -implicitDefEqProofs[H,g19']
   have g19':=zN g19;replace H:=And.intro g19 H;iterate 3 refine yO 3 ?_
   refine yO 2 ?_;refine DrO.nil ⟨by kernel_rfl,?_⟩
   refine⟨rfl,Gh.only 30 15 ?_ (by first|rfl|simp -implicitDefEqProofs[H]) (by rfl)⟩
   simp -implicitDefEqProofs[H,g19']
  refine zD (a<j/\h' j<h' q) (λd30=>?_) (λd30=>?_)
  ·have hw2:IntKind.i64.wrap ((j:Int)-1)=(q:Int):=by rw[am (by omega) (by omega)];omega
   replace H:=And.intro d30 (And.intro hw2 (And.intro hjn (And.intro hqn H)));refine WpC.skip ?_;refine WpC.seq ?_;refine WpC.block ?_;refine WpC.drawn tabOk (by kernel_rfl) 0 (by simp) ?_
   iterate 6 refine yO 3 ?_
   refine DrO.nil ⟨by kernel_rfl,?_⟩
   refine zr ?_;exact⟨(q,sw h' j q),⟨by simp;omega,by simp;omega,h5'.trans (Mv.sw _ (by omega) (by omega) (by omega) (by omega)),h7'.trans (Rch.sw _ (by omega) (by omega) (by omega) (by omega)),qv yF hq hok' hjn h6' d30.1 h4' ((rh _ _).2 d30.2)⟩,by simp;omega,Gh.cut' [7,0,1,2,6] 1 (by simp -implicitDefEqProofs[H,c12',sw]) (by simp -implicitDefEqProofs[H,c12',sw]) rfl (by simp) (by simp) (by simp)⟩
  have hsr:=tf yF hq hok' (by omega) h6' h4' (λz=>d30 ⟨z.1,(rh _ _).1 z.2⟩)
  replace H:=And.intro d30 H;refine WpC.exit ?_;refine zr ?_;exact⟨(i+1,h'),⟨by simp;omega,by simp;omega,h5',h7',hsr⟩,by simp;omega,Gh.cut' [6,0,1,2] 1 (by simp -implicitDefEqProofs[H,c12']) (by simp -implicitDefEqProofs[H,c12']) rfl (by simp) (by simp) (by simp)⟩
 have c12':=zN c12;replace H:=And.intro c12 H;refine WpC.exit ?_;refine⟨.inl rfl,[],rfl,?_,by simp⟩
 exact⟨h,rfl,rfl,h5,h7,λp r p1 p2 p3=>h6 p r p1 p2 (by simp at c12;omega)⟩
theorem Fp (g:Nat->Int) (n:Nat) (lim:Int) (hn:n<=12):
 WpF Tryz.prog 99 [.sl 0 n,.d (dI 0),.d (dI n),.d (dI lim)] [.arr 3 1 (aA g n)]
  λr S=>∃h,r= .tup []/\S=[.arr 3 1 (aA h n)]/\Mv 0 n g h/\Rch 0 n g h/\bz cI h 0 n:=by
 have hc:=BA g n 0 n (Nat.zero_le _) (Nat.le_refl _) (by omega)
 have e0:((0:Nat):Int)=0:=rfl;rw[e0] at hc;have hw:IntKind.i64.wrap ((n:Int))=n:=am (by omega) (by omega)
 have hn':(n:Int)<=12:=by omega
 have hn2:¬(12:Int)<n:=by omega
 refine WpF.enter tabOk Tryz.func99 rfl (by show 4<=134;decide) ?_
 simp only[Tryz.f99];have H:=And.intro hw (And.intro hn' hn2);iterate 2 refine zR ?_
 refine WpC.block ?_;refine WpC.loopM [0] [1,2,3,8,9] (λ_=>0) (():Unit) (λ_=>[(1,.d (dI 0)),(2,.d (dI n)),(3,.d (dI lim)),(8,.d (.bool true)),(9,.d (.bool true))]) (λ_=>[.arr 3 1 (aA g n)]) (λ_=>True) (by simp -implicitDefEqProofs[H]<;>rfl) (Gh.cut' [1,2,3,8,9,0] 1 (by simp -implicitDefEqProofs[H]) (by simp -implicitDefEqProofs[H]) rfl (by simp) (by simp) (by simp)) (by simp) ?_
 rintro⟨⟩ hi;simp only[List.cons_append,List.nil_append];refine WpC.block ?_;refine zR ?_;refine WpC.seq ?_;refine zR ?_;refine zT ?_;refine WpC.seq ?_;refine WpC.region ?_;refine zO 3 ?_;refine WpO.callP [0] (by simp) rfl (by simp -implicitDefEqProofs[H]<;>rfl) (by simp -implicitDefEqProofs[H]<;>rfl) yo (by simp) (by simp) (by simp) (by simp -implicitDefEqProofs[H]) (by simp;rfl) (by simp -implicitDefEqProofs[H]) (hc) λr S1 hr=>?_
 obtain⟨h,rfl,rfl,m1,m2,t1⟩:=hr;refine⟨_,by simp -implicitDefEqProofs[H]<;>rfl,?_⟩
 refine WpO.nil ?_;refine WpC.ret ?_;refine⟨.inr rfl,[],rfl,?_,by simp⟩
 exact⟨h,rfl,rfl,m1,m2,t1⟩
def uJ (y:Nat):Nat:=if y=0 then 0 else y.log2+1
theorem uK (y:Nat) (hy:y<256):ah Tryz.prog 139 [.d (.int .u64 y)] (.d (dI (uJ y))):=by
 have e1:¬((4294967296:Int)<=(y:Int)):=by omega
 have e2:¬((65536:Int)<=(y:Int)):=by omega
 have e3:¬((256:Int)<=(y:Int)):=by omega
 have w3:IntKind.u8.wrap (y:Int)=y:=by simp[IntKind.wrap,IntKind.bits,IntKind.signed];omega
 refine ah.enter tabOk Tryz.func139 rfl (by show 1<=25;decide) ?_
 simp only[Tryz.f139];have H:=And.intro e1 (And.intro e2 (And.intro e3 (And.intro w3 hy)));refine zR ?_;refine WpC.seq ?_;refine zR ?_;refine zF ?_;refine WpC.skip ?_;refine WpC.seq ?_;refine zR ?_;refine zF ?_;refine WpC.skip ?_;refine WpC.seq ?_;refine zR ?_;refine zF ?_;refine WpC.skip ?_;generalize hS:ByteArray.mk _=S;have hs0:((List.range 256).all λx=>(S.data.toList[x]?).map UInt8.toNat==some (uJ x))=true:=by rw[<-hS];decide+kernel
 have hs1:=List.all_eq_true.1 hs0 y (List.mem_range.2 hy);rw[beq_iff_eq,Option.map_eq_some_iff] at hs1;obtain⟨b,hs2,hs3⟩:=hs1;have hs2:S.data[y]?=some b:=by rw[<-Array.getElem?_toList];exact hs2
 have hb:b.toNat<256:=b.toNat_lt;have w4:IntKind.i64.wrap (uJ y:Int)=(uJ y:Int):=am (by omega) (by omega)
 replace H:=And.intro hs2 (And.intro hs3 (And.intro w4 H));refine zR ?_;refine WpC.ret ?_;try simp only[aa,aj]
 refine zE ?_;simp -implicitDefEqProofs[H]
theorem Fw (y:Nat) (hy:y<256):ah Tryz.prog 100 [.d (.int .u64 y)] (.d (dI (uJ y))):=by
 have hc:=uK y hy;have w1:IntKind.u64.wrap (y:Int)=y:=eQ (by omega) (by omega)
 refine ah.enter tabOk Tryz.func100 rfl (by show 1<=8;decide) ?_
 simp only[Tryz.f100];have H:=w1;refine zR ?_;refine WpC.seq ?_;refine zF ?_;refine WpC.skip ?_;refine WpC.seq ?_;refine WpC.region ?_;refine zO 1 ?_;refine zG q7 (hc) ?_;refine zO 1 ?_;refine WpO.nil ?_;refine WpC.ret ?_;try simp only[aa,aj]
 refine zE ?_;simp -implicitDefEqProofs[H]
theorem AJ (g:Nat->Int) (n:Nat) (hn:n<=12):
 WpF Tryz.prog 76 [.sl 0 n] [.arr 3 1 (aA g n)]
  λr S=>∃h,r= .tup []/\S=[.arr 3 1 (aA h n)]/\Mv 0 n g h/\Rch 0 n g h/\bz cI h 0 n:=by
 have hc:=Fp g n (uJ n) hn;have hl:=Fw n (by omega)
 have w1:IntKind.u64.wrap (n:Int)=n:=eQ (by omega) (by omega)
 refine WpF.enter tabOk Tryz.func76 rfl (by show 1<=11;decide) ?_
 simp only[Tryz.f76];have H:=w1;refine zR ?_;refine WpC.region ?_;refine zO 4 ?_;refine zG yC (hl) ?_;refine WpO.callP [0] (by simp) rfl (by simp -implicitDefEqProofs[H]<;>rfl) (by simp -implicitDefEqProofs[H]<;>rfl) B5 (by simp) (by simp) (by simp) (by simp -implicitDefEqProofs[H]) (by simp;rfl) (by simp -implicitDefEqProofs[H]) (hc) λr S1 hr=>?_
 obtain⟨h,rfl,rfl,m1,m2,t1⟩:=hr;refine⟨_,by simp -implicitDefEqProofs[H]<;>rfl,?_⟩
 refine WpO.nil ?_;refine⟨.inl rfl,[],rfl,?_,by simp⟩
 exact⟨h,rfl,rfl,m1,m2,t1⟩
end Go.Proofs.YtlhmejigmokbhaaGreatDoor.Pay
