/- The texts SpD, one behind the other. No statement of the seed is proved here. -/
import Derived.Test.YtlhmejigmokbhaaGreatDoorMgR
namespace Go.Proofs.YtlhmejigmokbhaaGreatDoor.Pay
open Go Go.RowKit
set_option linter.unusedVariables false
set_option linter.unusedSimpArgs false
theorem ak (x:Int):decide (x<0)=!decide (0<=x):=by by_cases h:x<0<;>simp[h]<;>omega
section
variable (cT cS:Int) (cW cP:List D) {c:Int->Int->Int} {ok:Int->Prop} (hcm:Cmp c ok)
 (hcc:∀x y,ok x->ok y->ah Tryz.prog 83 [.d (dI x),.d (dI y),.dp [dI cT],.dp [dI cS],.dp [.list 1 cW],.dp [.list 1 cP]] (.d (dI (c x y))))
include hcm hcc
set_option maxHeartbeats 40000000 in
theorem kD (n:Nat) (hn:n<=1000000):∀(d:Nat) (g:Nat->Int) (a m b:Nat),b-a<=d->a<m->m<b->b<=n->eK ok g n->bz c g a m->bz c g m b->
 WpF Tryz.prog 142 [.sl 0 n,.d (dI a),.d (dI m),.d (dI b),.fn 83 [.dp [dI cT],.dp [dI cS],.dp [.list 1 cW],.dp [.list 1 cP]]] [.arr 3 1 (aA g n)]
  λr S=>∃h,r= .tup []/\S=[.arr 3 1 (aA h n)]/\Mv a b g h/\bz c h a b:=by
 intro d;induction d with
 |zero=>intro g a m b h0 h1 h2;omega
 |succ d ih=>
 intro g a m b hd ham hmb hbn hok hs1 hs2;have han:a<n:=by omega
 have hmn:m<n:=by omega
 obtain⟨x0,hx0⟩:∃x:Int,IntKind.i64.wrap ((m:Int)-a)=x:=⟨_,rfl⟩
 have hx0':x0=(m:Int)-a:=by rw[<-hx0];exact am (by omega) (by omega)
 obtain⟨y0,hy0⟩:∃x:Int,IntKind.i64.wrap ((b:Int)-m)=x:=⟨_,rfl⟩
 have hy0':y0=(b:Int)-m:=by rw[<-hy0];exact am (by omega) (by omega)
 have hz1:=wc g a;have hz2:=uo g m;refine WpF.enter tabOk Tryz.func142 rfl (by show 5<=220;decide) ?_
 simp only[Tryz.f142];have H:=And.intro han (And.intro hmn (And.intro hx0 (And.intro hy0 (And.intro hz1 hz2))));refine WpC.seq ?_;refine qR (by simp -implicitDefEqProofs[ak,H]<;>rfl) ?_
 refine WpC.condD (x0=1) (by simp -implicitDefEqProofs[ak,H]) (λd28=>?_) (λd28=>?_)
 ·replace H:=And.intro d28 H;iterate 2 refine qR (by simp -implicitDefEqProofs[ak,H]<;>rfl) ?_
  refine WpC.seq ?_;refine WpC.block ?_;refine WpC.loopM [0,1,4] [10,11] (λx=>x.2-x.1) ((m,b):Nat×Nat) (λx=>[(10,.d (dI (x.1:Nat))),(11,.d (dI (x.2:Nat)))]) (λx=>[.arr 3 1 (aA g n)]) (λx=>m<=x.1/\x.1<=x.2/\x.2<=b/\(∀k,m<=k->k<x.1->c (g k) (g a)<0)/\(∀k,x.2<=k->k<b->¬c (g k) (g a)<0)) (by simp -implicitDefEqProofs[ak,H]<;>rfl) (Gh.cut' [10,11,0,1,4] 1 (by simp -implicitDefEqProofs[ak,H]) (by simp -implicitDefEqProofs[ak,H]) rfl (by simp) (by simp) (by simp)) (⟨by simp,by simp;omega,by simp,λk h1 h2=>by simp at h2;omega,λk h1 h2=>by simp at h1;omega⟩) ?_
  rintro x hi;simp only[List.cons_append,List.nil_append];obtain⟨i,j⟩:=x;obtain⟨q1,q2,q3,q4,q5⟩:=hi;simp only at q1 q2 q3 q4 q5 ⊢;refine WpC.seq ?_;refine qR (by simp -implicitDefEqProofs[ak,H]<;>rfl) ?_
  refine WpC.condR (by simp -implicitDefEqProofs[ak,H]<;>rfl) (by rfl) (λc33=>?_) (λc33=>?_)
  ·have c33':=zN c33;replace H:=And.intro c33 H;refine WpC.skip ?_;refine WpC.block ?_;have hij:i<j:=by simpa using c33
   obtain⟨h,hh⟩:∃h,(i+j)/2=h:=⟨_,rfl⟩
   have hsh:=AL hh (by omega)
   have hhn:h<n:=by omega
   have hw:IntKind.i64.wrap ((h:Int)+1)=((h+1:Nat):Int):=by rw[am (by omega) (by omega)];omega
   replace H:=And.intro hsh (And.intro hhn (And.intro hw H));refine qR (by simp -implicitDefEqProofs[ak,H]<;>rfl) ?_
   refine WpC.seq ?_;refine WpC.drawn tabOk (by kernel_rfl) 0 (by simp) ?_
   refine DrO.run (fz:=[]) 3 (by simp -implicitDefEqProofs[ak,H]<;>first|exact⟨rfl,rfl,rfl,rfl⟩|rfl) ?_
   refine DrO.run (fz:=[]) 3 (by simp -implicitDefEqProofs[ak,H]<;>first|exact⟨rfl,rfl,rfl,rfl⟩|rfl) ?_
   refine DrO.run (fz:=[]) 3 (by simp -implicitDefEqProofs[ak,H]<;>first|exact⟨rfl,rfl,rfl,rfl⟩|rfl) ?_
   refine DrO.data (by simp) rfl (by simp -implicitDefEqProofs[ak,H]<;>rfl) (by simp -implicitDefEqProofs[ak,H]<;>rfl) (by simp -implicitDefEqProofs[ak,H]<;>rfl) lp (hcc (g h) (g a) (hok h hhn) (hok a han)) (by rfl) (by simp -implicitDefEqProofs[ak,H]<;>rfl) ?_
   refine DrO.run (fz:=[]) 1 (by simp -implicitDefEqProofs[ak,H]<;>first|exact⟨rfl,rfl,rfl,rfl⟩|rfl) ?_
   refine DrO.nil ⟨by kernel_rfl,?_⟩
   refine WpC.condD (c (g h) (g a)<0) (by simp -implicitDefEqProofs[ak,H]) (λd50=>?_) (λd50=>?_)
   ·replace H:=And.intro d50 H;refine qr (by simp -implicitDefEqProofs[ak,H]<;>rfl) ?_
    exact⟨(h+1,j),⟨by simp;omega,by simp;omega,q3,λk k1 k2=>hcm.lel (hok k (by simp at k2;omega)) (hok h (by omega)) (hok a han) (hs2.le hcm hok hbn (by omega) (by simp at k2;omega) (by omega)) d50,q5⟩,by simp;omega,Gh.cut' [10,11,0,1,4] 1 (by simp -implicitDefEqProofs[ak,H,c33']) (by simp -implicitDefEqProofs[ak,H,c33']) rfl (by simp) (by simp) (by simp)⟩
   replace H:=And.intro d50 H;refine qr (by simp -implicitDefEqProofs[ak,H]<;>rfl) ?_
   exact⟨(i,h),⟨q1,by simp;omega,by simp;omega,q4,λk k1 k2=>hcm.le (hok a han) (hok h (by omega)) (hok k (by omega)) d50 (hs2.le hcm hok hbn (by omega) (by simpa using k1) k2)⟩,by simp;omega,Gh.cut' [10,11,0,1,4] 1 (by simp -implicitDefEqProofs[ak,H,c33']) (by simp -implicitDefEqProofs[ak,H,c33']) rfl (by simp) (by simp) (by simp)⟩
  have c33':=zN c33;replace H:=And.intro c33 H;refine WpC.exit ?_;refine WpC.seq ?_;have hij:¬i<j:=by simpa using c33
  have hie:i=j:=by omega
  subst hie;have ha1:m=a+1:=by omega
  subst ha1;refine qR (by simp -implicitDefEqProofs[ak,H]<;>rfl) ?_
  refine WpC.block ?_;refine WpC.loopM [0,10] [13] (λx=>i-1-x) (a:Nat) (λx=>[(13,.d (dI (x:Nat)))]) (λx=>[.arr 3 1 (aA (shl g a x) n)]) (λx=>a<=x/\x<=i-1) (by simp -implicitDefEqProofs[ak,H]<;>rfl) (Gh.cut' [13,0,10] 1 (by simp -implicitDefEqProofs[ak,H]) (by simp -implicitDefEqProofs[ak,H]) rfl (by simp) (by simp) (by simp)) (⟨by simp,by omega⟩) ?_
  rintro x hi;simp only[List.cons_append,List.nil_append];have hw2:IntKind.i64.wrap ((i:Int)-1)=((i-1:Nat):Int):=by rw[am (by omega) (by omega)];omega
  obtain⟨i1,hi1⟩:∃q,i-1=q:=⟨_,rfl⟩
  rw[hi1] at hw2;replace H:=And.intro hw2 H;refine WpC.seq ?_;refine qR (by simp -implicitDefEqProofs[ak,H]<;>rfl) ?_
  refine WpC.condR (by simp -implicitDefEqProofs[ak,H]<;>rfl) (by rfl) (λc58=>?_) (λc58=>?_)
  ·have c58':=zN c58;have hxi:x<i1:=by simpa using c58
   obtain⟨h',hh'⟩:∃h',shl g a x=h':=⟨_,rfl⟩
   obtain⟨p,hp⟩:∃p,x+1=p:=⟨_,rfl⟩
   have hw3:IntKind.i64.wrap ((x:Int)+1)=(p:Int):=by rw[am (by omega) (by omega)];omega
   have hstp:=wd g (a:=a) (k:=x) hi.1;rw[hh',hp] at hstp;unfold sw at hstp;have hxn:x<n:=by omega
   have hpn:p<n:=by omega
   replace H:=And.intro c58 (And.intro hh' (And.intro hw3 (And.intro hxn (And.intro hpn H))));refine WpC.skip ?_;refine WpC.seq ?_;refine WpC.block ?_;refine WpC.drawn tabOk (by kernel_rfl) 0 (by simp) ?_
   refine DrO.run (fz:=[]) 3 (by simp -implicitDefEqProofs[ak,H]<;>first|exact⟨rfl,rfl,rfl,rfl⟩|rfl) ?_
   refine DrO.run (fz:=[]) 3 (by simp -implicitDefEqProofs[ak,H]<;>first|exact⟨rfl,rfl,rfl,rfl⟩|rfl) ?_
   refine DrO.run (fz:=[]) 3 (by simp -implicitDefEqProofs[ak,H]<;>first|exact⟨rfl,rfl,rfl,rfl⟩|rfl) ?_
   refine DrO.run (fz:=[]) 3 (by simp -implicitDefEqProofs[ak,H]<;>first|exact⟨rfl,rfl,rfl,rfl⟩|rfl) ?_
   refine DrO.run (fz:=[]) 3 (by simp -implicitDefEqProofs[ak,H]<;>first|exact⟨rfl,rfl,rfl,rfl⟩|rfl) ?_
   refine DrO.run (fz:=[]) 3 (by simp -implicitDefEqProofs[ak,H]<;>first|exact⟨rfl,rfl,rfl,rfl⟩|rfl) ?_
   refine DrO.nil ⟨by kernel_rfl,?_⟩
   refine qr (by simp -implicitDefEqProofs[ak,H]<;>rfl) ?_
   exact⟨p,⟨by omega,by omega⟩,by omega,Gh.cut' [13,0,10] 1 (by simp -implicitDefEqProofs[ak,H,c33',c58',hstp]) (by simp -implicitDefEqProofs[ak,H,c33',c58',hstp]) rfl (by simp) (by simp) (by simp)⟩
  have c58':=zN c58;replace H:=And.intro c58 H;refine WpC.exit ?_;refine WpC.ret ?_;have hxi:x=i-1:=by simp at c58;omega
  subst hxi;refine⟨.inr rfl,[],rfl,?_,by simp⟩
  exact⟨shl g a (i-1),rfl,rfl,Ff g (by omega) (by omega),AN hcm hok hbn (by omega) (by omega) hs2 q4 q5⟩
 replace H:=And.intro d28 H;refine WpC.skip ?_;refine WpC.seq ?_;refine qR (by simp -implicitDefEqProofs[ak,H]<;>rfl) ?_
 refine WpC.condD (y0=1) (by simp -implicitDefEqProofs[ak,H]) (λd80=>?_) (λd80=>?_)
 ·replace H:=And.intro d80 H;iterate 2 refine qR (by simp -implicitDefEqProofs[ak,H]<;>rfl) ?_
  refine WpC.seq ?_;refine WpC.block ?_;refine WpC.loopM [0,2,4] [14,15] (λx=>x.2-x.1) ((a,m):Nat×Nat) (λx=>[(14,.d (dI (x.1:Nat))),(15,.d (dI (x.2:Nat)))]) (λx=>[.arr 3 1 (aA g n)]) (λx=>a<=x.1/\x.1<=x.2/\x.2<=m/\(∀k,a<=k->k<x.1->¬c (g m) (g k)<0)/\(∀k,x.2<=k->k<m->c (g m) (g k)<0)) (by simp -implicitDefEqProofs[ak,H]<;>rfl) (Gh.cut' [14,15,0,2,4] 1 (by simp -implicitDefEqProofs[ak,H]) (by simp -implicitDefEqProofs[ak,H]) rfl (by simp) (by simp) (by simp)) (⟨by simp,by simp;omega,by simp,λk h1 h2=>by simp at h2;omega,λk h1 h2=>by simp at h1;omega⟩) ?_
  rintro x hi;simp only[List.cons_append,List.nil_append];obtain⟨i,j⟩:=x;obtain⟨q1,q2,q3,q4,q5⟩:=hi;simp only at q1 q2 q3 q4 q5 ⊢;refine WpC.seq ?_;refine qR (by simp -implicitDefEqProofs[ak,H]<;>rfl) ?_
  refine WpC.condR (by simp -implicitDefEqProofs[ak,H]<;>rfl) (by rfl) (λc85=>?_) (λc85=>?_)
  ·have c85':=zN c85;replace H:=And.intro c85 H;refine WpC.skip ?_;refine WpC.block ?_;have hij:i<j:=by simpa using c85
   obtain⟨h,hh⟩:∃h,(i+j)/2=h:=⟨_,rfl⟩
   have hsh:=AL hh (by omega)
   have hhn:h<n:=by omega
   have hw:IntKind.i64.wrap ((h:Int)+1)=((h+1:Nat):Int):=by rw[am (by omega) (by omega)];omega
   replace H:=And.intro hsh (And.intro hhn (And.intro hw H));refine qR (by simp -implicitDefEqProofs[ak,H]<;>rfl) ?_
   refine WpC.seq ?_;refine WpC.drawn tabOk (by kernel_rfl) 0 (by simp) ?_
   refine DrO.run (fz:=[]) 3 (by simp -implicitDefEqProofs[ak,H]<;>first|exact⟨rfl,rfl,rfl,rfl⟩|rfl) ?_
   refine DrO.run (fz:=[]) 3 (by simp -implicitDefEqProofs[ak,H]<;>first|exact⟨rfl,rfl,rfl,rfl⟩|rfl) ?_
   refine DrO.run (fz:=[]) 3 (by simp -implicitDefEqProofs[ak,H]<;>first|exact⟨rfl,rfl,rfl,rfl⟩|rfl) ?_
   refine DrO.data (by simp) rfl (by simp -implicitDefEqProofs[ak,H]<;>rfl) (by simp -implicitDefEqProofs[ak,H]<;>rfl) (by simp -implicitDefEqProofs[ak,H]<;>rfl) lp (hcc (g m) (g h) (hok m hmn) (hok h hhn)) (by rfl) (by simp -implicitDefEqProofs[ak,H]<;>rfl) ?_
   refine DrO.run (fz:=[]) 2 (by simp -implicitDefEqProofs[ak,H]<;>first|exact⟨rfl,rfl,rfl,rfl⟩|rfl) ?_
   refine DrO.nil ⟨by kernel_rfl,?_⟩
   refine WpC.condD (0<=c (g m) (g h)) (by simp -implicitDefEqProofs[ak,H]) (λd103=>?_) (λd103=>?_)
   ·replace H:=And.intro d103 H;refine qr (by simp -implicitDefEqProofs[ak,H]<;>rfl) ?_
    exact⟨(h+1,j),⟨by simp;omega,by simp;omega,q3,λk k1 k2=>hcm.le (hok k (by simp at k2;omega)) (hok h (by omega)) (hok m hmn) (hs1.le hcm hok (by omega) (by omega) (by simp at k2;omega) (by omega)) (by omega),q5⟩,by simp;omega,Gh.cut' [14,15,0,2,4] 1 (by simp -implicitDefEqProofs[ak,H,c85']) (by simp -implicitDefEqProofs[ak,H,c85']) rfl (by simp) (by simp) (by simp)⟩
   replace H:=And.intro d103 H;refine qr (by simp -implicitDefEqProofs[ak,H]<;>rfl) ?_
   exact⟨(i,h),⟨q1,by simp;omega,by simp;omega,q4,λk k1 k2=>hcm.ltl (hok m hmn) (hok h (by omega)) (hok k (by omega)) (by omega) (hs1.le hcm hok (by omega) (by omega) (by simpa using k1) k2)⟩,by simp;omega,Gh.cut' [14,15,0,2,4] 1 (by simp -implicitDefEqProofs[ak,H,c85']) (by simp -implicitDefEqProofs[ak,H,c85']) rfl (by simp) (by simp) (by simp)⟩
  have c85':=zN c85;replace H:=And.intro c85 H;refine WpC.exit ?_;refine WpC.seq ?_;have hij:¬i<j:=by simpa using c85
  have hie:i=j:=by omega
  subst hie;have hb1:b=m+1:=by omega
  subst hb1;refine qR (by simp -implicitDefEqProofs[ak,H]<;>rfl) ?_
  refine WpC.block ?_;refine WpC.loopM [0,14] [17] (λx=>x-i) (m:Nat) (λx=>[(17,.d (dI (x:Nat)))]) (λx=>[.arr 3 1 (aA (kS g x m) n)]) (λx=>i<=x/\x<=m) (by simp -implicitDefEqProofs[ak,H]<;>rfl) (Gh.cut' [17,0,14] 1 (by simp -implicitDefEqProofs[ak,H]) (by simp -implicitDefEqProofs[ak,H]) rfl (by simp) (by simp) (by simp)) (⟨by omega,by simp⟩) ?_
  rintro x hi;simp only[List.cons_append,List.nil_append];refine WpC.seq ?_;refine qR (by simp -implicitDefEqProofs[ak,H]<;>rfl) ?_
  refine WpC.condR (by simp -implicitDefEqProofs[ak,H]<;>rfl) (by rfl) (λc110=>?_) (λc110=>?_)
  ·have c110':=zN c110;have hxi:i<x:=by simpa using c110
   obtain⟨h',hh'⟩:∃h',kS g x m=h':=⟨_,rfl⟩
   obtain⟨p,hp⟩:∃p,x-1=p:=⟨_,rfl⟩
   have hw3:IntKind.i64.wrap ((x:Int)-1)=(p:Int):=by rw[am (by omega) (by omega)];omega
   have hstp:=uq g (k:=x) (m:=m) hp (by omega) hi.2
   rw[hh'] at hstp;unfold sw at hstp;have hxn:x<n:=by omega
   have hpn:p<n:=by omega
   replace H:=And.intro c110 (And.intro hh' (And.intro hw3 (And.intro hxn (And.intro hpn H))));refine WpC.skip ?_;refine WpC.seq ?_;refine WpC.block ?_;refine WpC.drawn tabOk (by kernel_rfl) 0 (by simp) ?_
   refine DrO.run (fz:=[]) 3 (by simp -implicitDefEqProofs[ak,H]<;>first|exact⟨rfl,rfl,rfl,rfl⟩|rfl) ?_
   refine DrO.run (fz:=[]) 3 (by simp -implicitDefEqProofs[ak,H]<;>first|exact⟨rfl,rfl,rfl,rfl⟩|rfl) ?_
   refine DrO.run (fz:=[]) 3 (by simp -implicitDefEqProofs[ak,H]<;>first|exact⟨rfl,rfl,rfl,rfl⟩|rfl) ?_
   refine DrO.run (fz:=[]) 3 (by simp -implicitDefEqProofs[ak,H]<;>first|exact⟨rfl,rfl,rfl,rfl⟩|rfl) ?_
   refine DrO.run (fz:=[]) 3 (by simp -implicitDefEqProofs[ak,H]<;>first|exact⟨rfl,rfl,rfl,rfl⟩|rfl) ?_
   refine DrO.run (fz:=[]) 3 (by simp -implicitDefEqProofs[ak,H]<;>first|exact⟨rfl,rfl,rfl,rfl⟩|rfl) ?_
   refine DrO.nil ⟨by kernel_rfl,?_⟩
   refine qr (by simp -implicitDefEqProofs[ak,H]<;>rfl) ?_
   exact⟨p,⟨by omega,by omega⟩,by omega,Gh.cut' [17,0,14] 1 (by simp -implicitDefEqProofs[ak,H,c85',c110',hstp]) (by simp -implicitDefEqProofs[ak,H,c85',c110',hstp]) rfl (by simp) (by simp) (by simp)⟩
  have c110':=zN c110;replace H:=And.intro c110 H;refine WpC.exit ?_;refine WpC.ret ?_;have hxi:x=i:=by simp at c110;omega
  subst hxi;refine⟨.inr rfl,[],rfl,?_,by simp⟩
  exact⟨kS g x m,rfl,rfl,AK g q1 q3 (by omega),v_ hcm hok hmn q1 q3 hs1 q4 q5⟩
 replace H:=And.intro d80 H;refine WpC.skip ?_;obtain⟨mid,hmid⟩:∃mid,(a+b)/2=mid:=⟨_,rfl⟩
 have hshm:=AL hmid (by omega)
 obtain⟨nn,hnn⟩:∃q,mid+m=q:=⟨_,rfl⟩
 have hwn:IntKind.i64.wrap ((mid:Int)+m)=(nn:Int):=by rw[am (by omega) (by omega)];omega
 obtain⟨p,hp⟩:∃q,mid+m-1=q:=⟨_,rfl⟩
 have hwp:IntKind.i64.wrap ((nn:Int)-1)=(p:Int):=by rw[am (by omega) (by omega)];omega
 obtain⟨s0,r0,hsr⟩:∃s0 r0:Nat,(mid<m/\s0+b=mid+m/\r0=mid)\/(m<=mid/\s0=a/\r0=m):=by
  by_cases h:mid<m
  ·exact⟨mid+m-b,mid,.inl ⟨h,by omega,rfl⟩⟩
  ·exact⟨a,m,.inr ⟨by omega,rfl,rfl⟩⟩
 have hpl:Pl a m b p s0 r0:=⟨by omega,by omega,by omega,by omega,by omega⟩
 replace H:=And.intro hshm (And.intro hwn (And.intro hwp H));iterate 3 refine qR (by simp -implicitDefEqProofs[ak,H]<;>rfl) ?_
 refine WpC.seq ?_;refine qR (by simp -implicitDefEqProofs[ak,H]<;>rfl) ?_
 refine WpC.join ⟨[(0,.sl 0 n),(1,.d (dI a)),(2,.d (dI m)),(3,.d (dI b)),(4,.fn 83 [.dp [dI cT],.dp [dI cS],.dp [.list 1 cW],.dp [.list 1 cP]]),(18,.d (dI mid)),(19,.d (dI nn)),(20,.d (dI s0)),(21,.d (dI r0))],[.arr 3 1 (aA g n)],220,1⟩ ?_ ?_
 ·refine WpC.condD (mid<m) (by simp -implicitDefEqProofs[ak,H]) (λd140=>?_) (λd140=>?_)
  ·have hs0:IntKind.i64.wrap ((nn:Int)-b)=(s0:Int):=by rw[am (by omega) (by omega)];omega
   have hr0:mid=r0:=by omega
   replace H:=And.intro d140 (And.intro hs0 (And.intro hr0 H));refine qR (by simp -implicitDefEqProofs[ak,H]<;>rfl) ?_
   refine qr (by simp -implicitDefEqProofs[ak,H]<;>rfl) ?_
   exact⟨rfl,Gh.cut' [0,1,2,3,4,18,19,20,21] 1 (by simp -implicitDefEqProofs[ak,H]) (by simp -implicitDefEqProofs[ak,H]) rfl (by simp) (by simp) (by simp)⟩
  have hs0:a=s0:=by omega
  have hr0:m=r0:=by omega
  replace H:=And.intro d140 (And.intro hs0 (And.intro hr0 H));refine qR (by simp -implicitDefEqProofs[ak,H]<;>rfl) ?_
  refine qr (by simp -implicitDefEqProofs[ak,H]<;>rfl) ?_
  exact⟨rfl,Gh.cut' [0,1,2,3,4,18,19,20,21] 1 (by simp -implicitDefEqProofs[ak,H]) (by simp -implicitDefEqProofs[ak,H]) rfl (by simp) (by simp) (by simp)⟩
 replace H:=And.intro hwp H;refine qR (by simp -implicitDefEqProofs[ak,H]<;>rfl) ?_
 refine WpC.seq ?_;refine WpC.block ?_;refine WpC.loopM [0,1,2,3,4,18,19,22] [20,21] (λx=>x.2-x.1) ((s0,r0):Nat×Nat) (λx=>[(20,.d (dI (x.1:Nat))),(21,.d (dI (x.2:Nat)))]) (λx=>[.arr 3 1 (aA g n)]) (λx=>Sy c g p s0 r0 x.1 x.2) (by simp -implicitDefEqProofs[ak,H]<;>rfl) (Gh.cut' [20,21,0,1,2,3,4,18,19,22] 1 (by simp -implicitDefEqProofs[ak,H]) (by simp -implicitDefEqProofs[ak,H]) rfl (by simp) (by simp) (by simp)) (⟨λk h1 h2=>by simp at h2;omega,λk h1 h2=>by simp at h1;omega,Nat.le_refl _,hpl.i3,Nat.le_refl _⟩) ?_
 rintro x hi;simp only[List.cons_append,List.nil_append];obtain⟨s,r⟩:=x;simp only at hi ⊢;obtain⟨o1,o2,o3⟩:=And.intro hi.o1 (And.intro hi.o2 hi.o3);obtain⟨p1,p2,p3,p4,p5⟩:=hpl;refine WpC.seq ?_;refine qR (by simp -implicitDefEqProofs[ak,H]<;>rfl) ?_
 refine WpC.condR (by simp -implicitDefEqProofs[ak,H]<;>rfl) (by rfl) (λc151=>?_) (λc151=>?_)
 ·have c151':=zN c151;replace H:=And.intro c151 H;refine WpC.skip ?_;refine WpC.block ?_;have hij:s<r:=by simpa using c151
  obtain⟨h,hh⟩:∃h,(s+r)/2=h:=⟨_,rfl⟩
  have hsh:=AL hh (by omega)
  have hhn:h<n:=by omega
  obtain⟨pk,hpk⟩:∃q,p-h=q:=⟨_,rfl⟩
  have hpn:pk<n:=by omega
  have hw:IntKind.i64.wrap ((h:Int)+1)=((h+1:Nat):Int):=by rw[am (by omega) (by omega)];omega
  have hw2:IntKind.i64.wrap ((p:Int)-h)=(pk:Int):=by rw[am (by omega) (by omega)];omega
  replace H:=And.intro hsh (And.intro hhn (And.intro hw (And.intro hw2 (And.intro hpn H))));refine qR (by simp -implicitDefEqProofs[ak,H]<;>rfl) ?_
  refine WpC.seq ?_;refine WpC.drawn tabOk (by kernel_rfl) 0 (by simp) ?_
  refine DrO.run (fz:=[]) 3 (by simp -implicitDefEqProofs[ak,H]<;>first|exact⟨rfl,rfl,rfl,rfl⟩|rfl) ?_
  refine DrO.run (fz:=[]) 3 (by simp -implicitDefEqProofs[ak,H]<;>first|exact⟨rfl,rfl,rfl,rfl⟩|rfl) ?_
  refine DrO.run (fz:=[]) 3 (by simp -implicitDefEqProofs[ak,H]<;>first|exact⟨rfl,rfl,rfl,rfl⟩|rfl) ?_
  refine DrO.run (fz:=[]) 2 (by simp -implicitDefEqProofs[ak,H]<;>first|exact⟨rfl,rfl,rfl,rfl⟩|rfl) ?_
  refine DrO.data (by simp) rfl (by simp -implicitDefEqProofs[ak,H]<;>rfl) (by simp -implicitDefEqProofs[ak,H]<;>rfl) (by simp -implicitDefEqProofs[ak,H]<;>rfl) lp (hcc (g pk) (g h) (hok pk hpn) (hok h hhn)) (by rfl) (by simp -implicitDefEqProofs[ak,H]<;>rfl) ?_
  refine DrO.run (fz:=[]) 2 (by simp -implicitDefEqProofs[ak,H]<;>first|exact⟨rfl,rfl,rfl,rfl⟩|rfl) ?_
  refine DrO.nil ⟨by kernel_rfl,?_⟩
  refine WpC.condD (0<=c (g pk) (g h)) (by simp -implicitDefEqProofs[ak,H]) (λd171=>?_) (λd171=>?_)
  ·replace H:=And.intro d171 H;refine qr (by simp -implicitDefEqProofs[ak,H]<;>rfl) ?_
   exact⟨(h+1,r),hi.up hcm hok hbn hs1 hs2 ⟨p1,p2,p3,p4,p5⟩ (by omega) (by omega) (by rw[hpk];omega),by simp;omega,Gh.cut' [20,21,0,1,2,3,4,18,19,22] 1 (by simp -implicitDefEqProofs[ak,H,c151']) (by simp -implicitDefEqProofs[ak,H,c151']) rfl (by simp) (by simp) (by simp)⟩
  replace H:=And.intro d171 H;refine qr (by simp -implicitDefEqProofs[ak,H]<;>rfl) ?_
  exact⟨(s,h),hi.down hcm hok hbn hs1 hs2 ⟨p1,p2,p3,p4,p5⟩ (by omega) (by omega) (by show c (g (p-h)) (g h)<0;rw[hpk];omega),by simp;omega,Gh.cut' [20,21,0,1,2,3,4,18,19,22] 1 (by simp -implicitDefEqProofs[ak,H,c151']) (by simp -implicitDefEqProofs[ak,H,c151']) rfl (by simp) (by simp) (by simp)⟩
 have c151':=zN c151;replace H:=And.intro c151 H;refine WpC.exit ?_;have hij:¬s<r:=by simpa using c151
 have hse:s=r:=by omega
 subst hse;obtain⟨e,he⟩:∃e,e+s=mid+m:=⟨mid+m-s,by omega⟩
 have hwe:IntKind.i64.wrap ((nn:Int)-s)=(e:Int):=by rw[am (by omega) (by omega)];omega
 have haf:=after hcm hok hbn hs1 hs2 hmid ham hmb hsr (hp▸hi) he;have hmv:=Fk g (a:=s) (m:=m) (b:=e) (by omega) (by omega)
 have hmv0:=hmv.wide (a':=a) (b':=b) (by omega) (by omega)
 have hnr:¬(s<m/\m<e)->rot g s m e=g:=λh=>wq g h (by omega) (by omega)
 have hrc:=λh1 h2=>uu cT cS cW cP g n s m e h1 h2 (by omega) hn
 obtain⟨h1,hh1⟩:∃h,rot g s m e=h:=⟨_,rfl⟩
 rw[hh1] at haf hmv hmv0 hnr;simp only[hh1] at hrc;have hok1:=hmv0.okk hbn hok;replace H:=And.intro hwe H;refine qR (by simp -implicitDefEqProofs[ak,H]<;>rfl) ?_
 refine WpC.seq ?_;refine WpC.seq ?_;refine WpC.val 185 (.d (.bool (decide (s<m/\m<e)))) ?_ ?_
 ·refine WpC.region ?_;refine WpO.run tabOk 4 (by simp -implicitDefEqProofs[ak,H]<;>first|exact⟨rfl,rfl⟩|rfl) ?_
  refine WpO.splitB 181 (by simp -implicitDefEqProofs[ak,H]<;>rfl) (by rfl) (λg181=>?_) (λg181=>?_)
  ·have g181':=zN g181;replace H:=And.intro g181 H;refine WpO.run tabOk 4 (by simp -implicitDefEqProofs[ak,H]<;>first|exact⟨rfl,rfl⟩|rfl) ?_
   refine WpO.nil ?_;refine⟨rfl,Gh.only 185 9 ?_ (by first|rfl|simp -implicitDefEqProofs[ak,H]) (by rfl)⟩
   simp -implicitDefEqProofs[ak,H,g181']
  have g181':=zN g181;replace H:=And.intro g181 H;refine WpO.run tabOk 4 (by simp -implicitDefEqProofs[ak,H]<;>first|exact⟨rfl,rfl⟩|rfl) ?_
  refine WpO.nil ?_;refine⟨rfl,Gh.only 185 9 ?_ (by first|rfl|simp -implicitDefEqProofs[ak,H]) (by rfl)⟩
  simp -implicitDefEqProofs[ak,H,g181']
 refine WpC.join ⟨[(0,.sl 0 n),(1,.d (dI a)),(3,.d (dI b)),(4,.fn 83 [.dp [dI cT],.dp [dI cS],.dp [.list 1 cW],.dp [.list 1 cP]]),(18,.d (dI mid)),(20,.d (dI s)),(24,.d (dI e))],[.arr 3 1 (aA h1 n)],220,1⟩ ?_ ?_
 ·refine WpC.condD (s<m/\m<e) (by simp -implicitDefEqProofs[ak,H]) (λd185=>?_) (λd185=>?_)
  ·have hrc:=hrc d185.1 d185.2;replace H:=And.intro d185 H;refine WpC.region ?_;refine WpO.run tabOk 5 (by simp -implicitDefEqProofs[ak,H]<;>first|exact⟨rfl,rfl⟩|rfl) ?_
   refine WpO.callP [0] (by simp) rfl (by simp -implicitDefEqProofs[ak,H]<;>rfl) (by simp -implicitDefEqProofs[ak,H]<;>rfl) ya (by simp) (by simp) (by simp) (by simp -implicitDefEqProofs[ak,H]) (by simp;rfl) (by simp -implicitDefEqProofs[ak,H]) (hrc) λr S1 hr=>?_
   obtain⟨rfl,rfl⟩:=hr;refine⟨_,by simp -implicitDefEqProofs[ak,H]<;>rfl,?_⟩
   refine WpO.nil ?_;exact⟨rfl,Gh.cut' [0,1,3,4,18,20,24] 1 (by simp -implicitDefEqProofs[ak,H,c151']) (by simp -implicitDefEqProofs[ak,H,c151']) rfl (by simp) (by simp) (by simp)⟩
  have hnr:=hnr d185;replace H:=And.intro d185 (And.intro hnr H);refine WpC.skip ?_;exact⟨rfl,Gh.cut' [0,1,3,4,18,20,24] 1 (by simp -implicitDefEqProofs[ak,H,c151']) (by simp -implicitDefEqProofs[ak,H,c151']) rfl (by simp) (by simp) (by simp)⟩
 refine WpC.seq ?_;refine WpC.seq ?_;refine WpC.val 199 (.d (.bool (decide (a<s/\s<mid)))) ?_ ?_
 ·refine WpC.region ?_;refine WpO.run tabOk 4 (by simp -implicitDefEqProofs[ak,H]<;>first|exact⟨rfl,rfl⟩|rfl) ?_
  refine WpO.splitB 195 (by simp -implicitDefEqProofs[ak,H]<;>rfl) (by rfl) (λg195=>?_) (λg195=>?_)
  ·have g195':=zN g195;replace H:=And.intro g195 H;refine WpO.run tabOk 4 (by simp -implicitDefEqProofs[ak,H]<;>first|exact⟨rfl,rfl⟩|rfl) ?_
   refine WpO.nil ?_;refine⟨rfl,Gh.only 199 9 ?_ (by first|rfl|simp -implicitDefEqProofs[ak,H]) (by rfl)⟩
   simp -implicitDefEqProofs[ak,H,g195']
  have g195':=zN g195;replace H:=And.intro g195 H;refine WpO.run tabOk 4 (by simp -implicitDefEqProofs[ak,H]<;>first|exact⟨rfl,rfl⟩|rfl) ?_
  refine WpO.nil ?_;refine⟨rfl,Gh.only 199 9 ?_ (by first|rfl|simp -implicitDefEqProofs[ak,H]) (by rfl)⟩
  simp -implicitDefEqProofs[ak,H,g195']
 refine WpC.condD (a<s/\s<mid) (by simp -implicitDefEqProofs[ak,H]) (λd199=>?_) (λd199=>?_)
 ·have hm1:=ih h1 a s mid (by omega) d199.1 d199.2 (by omega) hok1 haf.s1 haf.s2
  replace H:=And.intro d199 H;refine WpC.region ?_;refine WpO.run tabOk 5 (by simp -implicitDefEqProofs[ak,H]<;>first|exact⟨rfl,rfl⟩|rfl) ?_
  refine WpO.callP [0] (by simp) rfl (by simp -implicitDefEqProofs[ak,H]<;>rfl) (by simp -implicitDefEqProofs[ak,H]<;>rfl) hH (by simp) (by simp) (by simp) (by simp -implicitDefEqProofs[ak,H]) (by simp;rfl) (by simp -implicitDefEqProofs[ak,H]) (hm1) λr S1 hr=>?_
  obtain⟨h2,rfl,rfl,m1,t1⟩:=hr;refine⟨_,by simp -implicitDefEqProofs[ak,H]<;>rfl,?_⟩
  refine WpO.nil ?_;refine WpC.seq ?_;have hok2:=m1.okk (by omega) hok1
  have t3:bz c h2 mid e:=haf.s3.eq λi i1 i2=>m1.out i (by omega)
  have t4:bz c h2 e b:=haf.s4.eq λi i1 i2=>m1.out i (by omega)
  refine WpC.val 213 (.d (.bool (decide (mid<e/\e<b)))) ?_ ?_
  ·refine WpC.region ?_;refine WpO.run tabOk 4 (by simp -implicitDefEqProofs[ak,H]<;>first|exact⟨rfl,rfl⟩|rfl) ?_
   refine WpO.splitB 209 (by simp -implicitDefEqProofs[ak,H]<;>rfl) (by rfl) (λg209=>?_) (λg209=>?_)
   ·have g209':=zN g209;replace H:=And.intro g209 H;refine WpO.run tabOk 4 (by simp -implicitDefEqProofs[ak,H]<;>first|exact⟨rfl,rfl⟩|rfl) ?_
    refine WpO.nil ?_;refine⟨rfl,Gh.only 213 9 ?_ (by first|rfl|simp -implicitDefEqProofs[ak,H]) (by rfl)⟩
    simp -implicitDefEqProofs[ak,H,g209']
   have g209':=zN g209;replace H:=And.intro g209 H;refine WpO.run tabOk 4 (by simp -implicitDefEqProofs[ak,H]<;>first|exact⟨rfl,rfl⟩|rfl) ?_
   refine WpO.nil ?_;refine⟨rfl,Gh.only 213 9 ?_ (by first|rfl|simp -implicitDefEqProofs[ak,H]) (by rfl)⟩
   simp -implicitDefEqProofs[ak,H,g209']
  refine WpC.condD (mid<e/\e<b) (by simp -implicitDefEqProofs[ak,H]) (λd213=>?_) (λd213=>?_)
  ·have hm2:=ih h2 mid e b (by omega) d213.1 d213.2 (by omega) hok2 t3 t4
   replace H:=And.intro d213 H;refine WpC.region ?_;refine WpO.run tabOk 5 (by simp -implicitDefEqProofs[ak,H]<;>first|exact⟨rfl,rfl⟩|rfl) ?_
   refine WpO.callP [0] (by simp) rfl (by simp -implicitDefEqProofs[ak,H]<;>rfl) (by simp -implicitDefEqProofs[ak,H]<;>rfl) hH (by simp) (by simp) (by simp) (by simp -implicitDefEqProofs[ak,H]) (by simp;rfl) (by simp -implicitDefEqProofs[ak,H]) (hm2) λr S1 hr=>?_
   obtain⟨h3,rfl,rfl,m2,t2⟩:=hr;refine⟨_,by simp -implicitDefEqProofs[ak,H]<;>rfl,?_⟩
   refine WpO.nil ?_;refine⟨.inl rfl,[],rfl,?_,by simp⟩
   refine⟨_,rfl,?_,(hmv0.trans (m1.wide (by omega) (by omega))).trans (m2.wide (by omega) (by omega)),k7 haf m1 t1 m2 t2⟩
   rfl
  have m2:=Mv.refl mid b h2;have t2:bz c h2 mid b:=by
   by_cases q:mid<e
   ·have:e=b:=by omega
    rw[<-this];exact t3
   ·have:mid=e:=by omega
    rw[this];exact t4
  replace H:=And.intro d213 H;refine WpC.skip ?_;refine⟨.inl rfl,[],rfl,?_,by simp⟩
  refine⟨_,rfl,?_,(hmv0.trans (m1.wide (by omega) (by omega))).trans (m2.wide (by omega) (by omega)),k7 haf m1 t1 m2 t2⟩
  rfl
 obtain⟨h2,rfl,m1,t1⟩:∃h2,h2=h1/\Mv a mid h1 h2/\bz c h2 a mid:=by
  refine⟨h1,rfl,Mv.refl _ _ _,?_⟩;by_cases q:a<s
  ·have:s=mid:=by omega
   rw[<-this];exact haf.s1
  ·have:a=s:=by omega
   rw[this];exact haf.s2
 replace H:=And.intro d199 H;refine WpC.skip ?_;refine WpC.seq ?_;have hok2:=m1.okk (by omega) hok1
 have t3:bz c h2 mid e:=haf.s3.eq λi i1 i2=>m1.out i (by omega)
 have t4:bz c h2 e b:=haf.s4.eq λi i1 i2=>m1.out i (by omega)
 refine WpC.val 213 (.d (.bool (decide (mid<e/\e<b)))) ?_ ?_
 ·refine WpC.region ?_;refine WpO.run tabOk 4 (by simp -implicitDefEqProofs[ak,H]<;>first|exact⟨rfl,rfl⟩|rfl) ?_
  refine WpO.splitB 209 (by simp -implicitDefEqProofs[ak,H]<;>rfl) (by rfl) (λg209=>?_) (λg209=>?_)
  ·have g209':=zN g209;replace H:=And.intro g209 H;refine WpO.run tabOk 4 (by simp -implicitDefEqProofs[ak,H]<;>first|exact⟨rfl,rfl⟩|rfl) ?_
   refine WpO.nil ?_;refine⟨rfl,Gh.only 213 9 ?_ (by first|rfl|simp -implicitDefEqProofs[ak,H]) (by rfl)⟩
   simp -implicitDefEqProofs[ak,H,g209']
  have g209':=zN g209;replace H:=And.intro g209 H;refine WpO.run tabOk 4 (by simp -implicitDefEqProofs[ak,H]<;>first|exact⟨rfl,rfl⟩|rfl) ?_
  refine WpO.nil ?_;refine⟨rfl,Gh.only 213 9 ?_ (by first|rfl|simp -implicitDefEqProofs[ak,H]) (by rfl)⟩
  simp -implicitDefEqProofs[ak,H,g209']
 refine WpC.condD (mid<e/\e<b) (by simp -implicitDefEqProofs[ak,H]) (λd213=>?_) (λd213=>?_)
 ·have hm2:=ih h2 mid e b (by omega) d213.1 d213.2 (by omega) hok2 t3 t4
  replace H:=And.intro d213 H;refine WpC.region ?_;refine WpO.run tabOk 5 (by simp -implicitDefEqProofs[ak,H]<;>first|exact⟨rfl,rfl⟩|rfl) ?_
  refine WpO.callP [0] (by simp) rfl (by simp -implicitDefEqProofs[ak,H]<;>rfl) (by simp -implicitDefEqProofs[ak,H]<;>rfl) hH (by simp) (by simp) (by simp) (by simp -implicitDefEqProofs[ak,H]) (by simp;rfl) (by simp -implicitDefEqProofs[ak,H]) (hm2) λr S1 hr=>?_
  obtain⟨h3,rfl,rfl,m2,t2⟩:=hr;refine⟨_,by simp -implicitDefEqProofs[ak,H]<;>rfl,?_⟩
  refine WpO.nil ?_;refine⟨.inl rfl,[],rfl,?_,by simp⟩
  refine⟨_,rfl,?_,(hmv0.trans (m1.wide (by omega) (by omega))).trans (m2.wide (by omega) (by omega)),k7 haf m1 t1 m2 t2⟩
  rfl
 have m2:=Mv.refl mid b h2;have t2:bz c h2 mid b:=by
  by_cases q:mid<e
  ·have:e=b:=by omega
   rw[<-this];exact t3
  ·have:mid=e:=by omega
   rw[this];exact t4
 replace H:=And.intro d213 H;refine WpC.skip ?_;refine⟨.inl rfl,[],rfl,?_,by simp⟩
 refine⟨_,rfl,?_,(hmv0.trans (m1.wide (by omega) (by omega))).trans (m2.wide (by omega) (by omega)),k7 haf m1 t1 m2 t2⟩
 rfl
end
end Go.Proofs.YtlhmejigmokbhaaGreatDoor.Pay
