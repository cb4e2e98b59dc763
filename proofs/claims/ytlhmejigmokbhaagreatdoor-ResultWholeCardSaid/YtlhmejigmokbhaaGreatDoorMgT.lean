/- The texts SpE, SpJ, one behind the other. No statement of the seed is proved here. -/
import Derived.Test.YtlhmejigmokbhaaGreatDoorMgQ
import Derived.Test.YtlhmejigmokbhaaGreatDoorMgS
namespace Go.Proofs.YtlhmejigmokbhaaGreatDoor.Pay
open Go Go.RowKit
set_option linter.unusedVariables false
set_option linter.unusedSimpArgs false
def Bl (c:Int->Int->Int) (g:Nat->Int) (k:Nat) (a b:Nat):Prop:=∀i j,a<=i->i<j->j<b->i/k=j/k->¬c (g j) (g i)<0
section
variable {c:Int->Int->Int} {g h h':Nat->Int} {n a k:Nat}
theorem rl (hk:k=20\/k=40) (ha:a%(2*k)=0) (hn:a+k<=n) (hb:Bl c h k a n):bz c h a (a+k):=λi j h1 h2 h3=>by
 rcases hk with rfl|rfl<;>exact hb i j h1 h2 (by omega) (by omega)
theorem tW {b:Nat} (hk:k=20\/k=40) (ha:a%(2*k)=0) (hn:b<=n) (hb2:b<=a+2*k) (hb:Bl c h k a n):bz c h (a+k) b:=λi j h1 h2 h3=>by
 rcases hk with rfl|rfl<;>exact hb i j (by omega) h2 (by omega) (by omega)
theorem pt {b:Nat} (hk:k=20\/k=40) (ha:a%(2*k)=0) (hb:Bl c h (2*k) 0 a) (m1:Mv a b h h') (t1:bz c h' a b):Bl c h' (2*k) 0 b:=λi j h1 h2 h3 h4=>by
 by_cases e:j<a
 ·rw[m1.out i (by omega),m1.out j (by omega)];exact hb i j h1 h2 e h4
 ·refine t1 i j ?_ h2 h3;rcases hk with rfl|rfl<;>omega
theorem CK {b:Nat} (hb:Bl c h k a n) (hab:a<=b) (m1:Mv a b h h'):Bl c h' k b n:=λi j h1 h2 h3 h4=>by
 rw[m1.out i (by omega),m1.out j (by omega)];exact hb i j (by omega) h2 h3 h4
theorem tX (hk:k=20\/k=40) (ha:a%(2*k)=0) (hn:n<=a+k) (h1:Bl c h (2*k) 0 a) (h2:Bl c h k a n):Bl c h (2*k) 0 n:=λi j i1 i2 i3 i4=>by
 by_cases e:j<a
 ·exact h1 i j i1 i2 e i4
 ·rcases hk with rfl|rfl<;>exact h2 i j (by omega) i2 i3 (by omega)
theorem pu (hn:n<=k) (hb:Bl c h k 0 n):bz c h 0 n:=λi j h1 h2 h3=>hb i j h1 h2 h3 (by rw[Nat.div_eq_of_lt (by omega),Nat.div_eq_of_lt (by omega)])
end
section
variable (cT cS:Int) (cW cP:List D) {c:Int->Int->Int} {ok:Int->Prop} (hcm:Cmp c ok)
 (hcc:∀x y,ok x->ok y->ah Tryz.prog 83 [.d (dI x),.d (dI y),.dp [dI cT],.dp [dI cS],.dp [.list 1 cW],.dp [.list 1 cP]] (.d (dI (c x y))))
include hcm hcc
set_option maxHeartbeats 40000000 in
theorem uj (g:Nat->Int) (n:Nat) (hn:n<=60) (hok:eK ok g n):
 WpF Tryz.prog 106 [.sl 0 n,.d (dI n),.fn 83 [.dp [dI cT],.dp [dI cS],.dp [.list 1 cW],.dp [.list 1 cP]]] [.arr 3 1 (aA g n)]
  λr S=>∃h,r= .tup []/\S=[.arr 3 1 (aA h n)]/\Mv 0 n g h/\bz c h 0 n:=by
 refine WpF.enter tabOk Tryz.func106 rfl (by show 3<=63;decide) ?_
 simp only[Tryz.f106];have H:=trivial;iterate 2 refine zR ?_
 refine WpC.seq ?_;refine WpC.block ?_;refine WpC.loopM [0,1,2,6] [7,8] (λx=>100-x.1) ((0,g):Nat×(Nat->Int)) (λx=>[(7,.d (dI (x.1:Nat))),(8,.d (dI ((x.1+20:Nat):Int)))]) (λx=>[.arr 3 1 (aA x.2 n)]) (λx=>x.1<=n/\x.1%20=0/\Mv 0 n g x.2/\Bl c x.2 20 0 x.1) (by simp -implicitDefEqProofs[H]<;>rfl) (Gh.cut' [7,8,0,1,2,6] 1 (by simp -implicitDefEqProofs[H]) (by simp -implicitDefEqProofs[H]) rfl (by simp) (by simp) (by simp)) (⟨by simp,by simp,Mv.refl _ _ _,λi j h1 h2 h3=>by simp at h3⟩) ?_
 rintro x hi;simp only[List.cons_append,List.nil_append];obtain⟨a,h⟩:=x;obtain⟨q1,q2,q3,q4⟩:=hi;simp only at q1 q2 q3 q4 ⊢;obtain⟨b,hb⟩:∃b,a+20=b:=⟨_,rfl⟩
 rw[hb];have hok1:=q3.okk (Nat.le_refl _) hok;refine WpC.seq ?_;refine zR ?_;refine zC (λc13=>?_) (λc13=>?_)
 ·have c13':=zN c13;have hbn:b<=n:=by simpa using c13
  have hw1:IntKind.i64.wrap ((b:Int)+20)=(b:Int)+20:=am (by omega) (by omega)
  have hc:=mq cT cS cW cP hcm hcc h n a b (by omega) hbn (by omega) hok1
  replace H:=And.intro c13 (And.intro hw1 H);refine WpC.skip ?_;refine WpC.block ?_;refine WpC.seq ?_;refine WpC.region ?_;refine zO 4 ?_;refine WpO.callP [0] (by simp) rfl (by simp -implicitDefEqProofs[H]<;>rfl) (by simp -implicitDefEqProofs[H]<;>rfl) qZ (by simp) (by simp) (by simp) (by simp -implicitDefEqProofs[H]) (by simp;rfl) (by simp -implicitDefEqProofs[H]) (hc) λr S1 hr=>?_
  obtain⟨h',rfl,rfl,m1,t1⟩:=hr;refine⟨_,by simp -implicitDefEqProofs[H]<;>rfl,?_⟩
  refine WpO.nil ?_;have bl:Bl c h' 20 0 b:=λi j i1 i2 i3 i4=>by
   by_cases e:j<a
   ·rw[m1.out i (by omega),m1.out j (by omega)];exact q4 i j i1 i2 e i4
   ·exact t1 i j (by omega) i2 i3
  refine zR ?_;refine zr ?_;exact⟨(b,h'),⟨by simp;omega,by simp;omega,q3.trans (m1.wide (by omega) (by omega)),bl⟩,by simp;omega,Gh.cut' [7,8,0,1,2,6] 1 (by simp -implicitDefEqProofs[H,c13']) (by simp -implicitDefEqProofs[H,c13']) rfl (by simp) (by simp) (by simp)⟩
 have c13':=zN c13;replace H:=And.intro c13 H;refine WpC.exit ?_;refine WpC.seq ?_;have hbn:¬b<=n:=by simpa using c13
 have hc:=mq cT cS cW cP hcm hcc h n a n q1 (Nat.le_refl _) (by omega) hok1
 refine WpC.region ?_;refine zO 4 ?_;refine WpO.callP [0] (by simp) rfl (by simp -implicitDefEqProofs[H]<;>rfl) (by simp -implicitDefEqProofs[H]<;>rfl) qZ (by simp) (by simp) (by simp) (by simp -implicitDefEqProofs[H]) (by simp;rfl) (by simp -implicitDefEqProofs[H]) (hc) λr S1 hr=>?_
 obtain⟨h',rfl,rfl,m1,t1⟩:=hr;refine⟨_,by simp -implicitDefEqProofs[H]<;>rfl,?_⟩
 refine WpO.nil ?_;refine WpC.block ?_;refine WpC.loopM [0,1,2] [6] (λx=>100-x.1) ((20,h'):Nat×(Nat->Int)) (λx=>[(6,.d (dI (x.1:Nat)))]) (λx=>[.arr 3 1 (aA x.2 n)]) (λx=>Mv 0 n g x.2/\((x.1=20/\Bl c x.2 20 0 n)\/(x.1=40/\Bl c x.2 40 0 n)\/(x.1=80/\bz c x.2 0 n))) (by simp -implicitDefEqProofs[H]<;>rfl) (Gh.cut' [6,0,1,2] 1 (by simp -implicitDefEqProofs[H]) (by simp -implicitDefEqProofs[H]) rfl (by simp) (by simp) (by simp)) (⟨q3.trans (m1.wide (by omega) (by omega)),.inl ⟨rfl,λi j i1 i2 i3 i4=>by
  by_cases e:j<a
  ·show¬c (h' j) (h' i)<0
   rw[m1.out i (by omega),m1.out j (by omega)];exact q4 i j i1 i2 e i4
  ·exact t1 i j (by omega) i2 i3⟩⟩) ?_
 rintro x hi;simp only[List.cons_append,List.nil_append];obtain⟨k,f⟩:=x;obtain⟨p1,p2⟩:=hi;simp only at p1 p2 ⊢;refine WpC.seq ?_;refine zR ?_;refine zC (λc30=>?_) (λc30=>?_)
 ·have c30':=zN c30;have hkn:k<n:=by simpa using c30
  obtain⟨hk,hbk⟩:(k=20\/k=40)/\Bl c f k 0 n:=by
   rcases p2 with⟨rfl,q⟩|⟨rfl,q⟩|⟨rfl,q⟩
   ·exact⟨.inl rfl,q⟩
   ·exact⟨.inr rfl,q⟩
   ·omega
  have hw2:IntKind.i64.wrap (2*(k:Int))=((2*k:Nat):Int):=by rw[am (by omega) (by omega)];omega
  have hw3:IntKind.i64.wrap ((k:Int)*2)=((2*k:Nat):Int):=by rw[am (by omega) (by omega)];omega
  replace H:=And.intro c30 (And.intro hw2 (And.intro hw3 H));refine WpC.skip ?_;refine WpC.block ?_;refine zR ?_;refine WpC.seq ?_;refine WpC.block ?_;refine WpC.loopM [0,1,2,6] [7,8] (λy=>1000-y.1) ((0,f):Nat×(Nat->Int)) (λy=>[(7,.d (dI (y.1:Nat))),(8,.d (dI ((y.1+2*k:Nat):Int)))]) (λy=>[.arr 3 1 (aA y.2 n)]) (λy=>y.1<=n/\y.1%(2*k)=0/\Mv 0 n g y.2/\Bl c y.2 (2*k) 0 y.1/\Bl c y.2 k y.1 n) (by simp -implicitDefEqProofs[H]<;>rfl) (Gh.cut' [7,8,0,1,2,6] 1 (by simp -implicitDefEqProofs[H]) (by simp -implicitDefEqProofs[H]) rfl (by simp) (by simp) (by simp)) (⟨by simp,by simp,p1,λi j i1 i2 i3=>by simp at i3,hbk⟩) ?_
  rintro y hi;simp only[List.cons_append,List.nil_append];obtain⟨a2,f2⟩:=y;obtain⟨p3,p4,p5,p6,p7⟩:=hi;simp only at p3 p4 p5 p6 p7 ⊢;obtain⟨b2,hb2⟩:∃b,a2+2*k=b:=⟨_,rfl⟩
  rw[hb2];obtain⟨m2,hm2⟩:∃b,a2+k=b:=⟨_,rfl⟩
  have hok2:=p5.okk (Nat.le_refl _) hok;have hw4:IntKind.i64.wrap ((a2:Int)+k)=(m2:Int):=by rw[am (by omega) (by omega)];omega
  replace H:=And.intro hw4 H;refine WpC.seq ?_;refine zR ?_;refine zC (λc35=>?_) (λc35=>?_)
  ·have c35':=zN c35;have hbn:b2<=n:=by simpa using c35
   have hw5:IntKind.i64.wrap ((b2:Int)+((2*k:Nat):Int))=((b2+2*k:Nat):Int):=by rw[am (by omega) (by omega)];omega
   have hw6:IntKind.i64.wrap ((b2:Int)+2*(k:Int))=(b2:Int)+2*(k:Int):=am (by omega) (by omega)
   have hc:=kD cT cS cW cP hcm hcc n (by omega) (b2-a2) f2 a2 m2 b2 (Nat.le_refl _) (by omega) (by omega) hbn hok2 (hm2▸rl hk p4 (by omega) p7) (hm2▸tW hk p4 hbn (by omega) p7)
   replace H:=And.intro c35 (And.intro hw5 (And.intro hw6 H));refine WpC.skip ?_;refine WpC.block ?_;refine WpC.seq ?_;refine WpC.region ?_;refine zO 7 ?_;refine WpO.callP [0] (by simp) rfl (by simp -implicitDefEqProofs[H]<;>rfl) (by simp -implicitDefEqProofs[H]<;>rfl) hH (by simp) (by simp) (by simp) (by simp -implicitDefEqProofs[H]) (by simp;rfl) (by simp -implicitDefEqProofs[H]) (hc) λr S1 hr=>?_
   obtain⟨f3,rfl,rfl,m3,t3⟩:=hr;refine⟨_,by simp -implicitDefEqProofs[H]<;>rfl,?_⟩
   refine WpO.nil ?_;refine zR ?_;refine zr ?_;exact⟨(b2,f3),⟨by simp;omega,by simp only;rcases hk with rfl|rfl<;>omega,p5.trans (m3.wide (by omega) (by omega)),hb2▸pt hk p4 p6 (hb2▸m3) (hb2▸t3),CK p7 (by omega) m3⟩,by simp;omega,Gh.cut' [7,8,0,1,2,6] 1 (by simp -implicitDefEqProofs[H,c13',c30',c35']) (by simp -implicitDefEqProofs[H,c13',c30',c35']) rfl (by simp) (by simp) (by simp)⟩
  have c35':=zN c35;replace H:=And.intro c35 H;refine WpC.exit ?_;refine WpC.seq ?_;iterate 2 refine zR ?_
  refine zC (λc54=>?_) (λc54=>?_)
  ·have c54':=zN c54;have hbn:¬b2<=n:=by simpa using c35
   have hmn:m2<n:=by simpa using c54
   have hc:=kD cT cS cW cP hcm hcc n (by omega) (n-a2) f2 a2 m2 n (Nat.le_refl _) (by omega) hmn (Nat.le_refl _) hok2 (hm2▸rl hk p4 (by omega) p7) (hm2▸tW hk p4 (Nat.le_refl _) (by omega) p7)
   replace H:=And.intro c54 H;refine WpC.region ?_;refine zO 5 ?_;refine WpO.callP [0] (by simp) rfl (by simp -implicitDefEqProofs[H]<;>rfl) (by simp -implicitDefEqProofs[H]<;>rfl) hH (by simp) (by simp) (by simp) (by simp -implicitDefEqProofs[H]) (by simp;rfl) (by simp -implicitDefEqProofs[H]) (hc) λr S1 hr=>?_
   obtain⟨f3,rfl,rfl,m3,t3⟩:=hr;refine⟨_,by simp -implicitDefEqProofs[H]<;>rfl,?_⟩
   refine WpO.nil ?_;have hbn:¬b2<=n:=by simpa using c35
   first
   |have bl3:Bl c f3 (2*k) 0 n:=pt hk p4 p6 m3 t3
   |have bl3:Bl c f2 (2*k) 0 n:=tX hk p4 (by simp at c54;omega) p6 p7
   refine zr ?_;exact⟨(2*k,f3),⟨p5.trans (m3.wide (by omega) (by omega)),by rcases hk with rfl|rfl;exact .inr (.inl ⟨rfl,bl3⟩);exact .inr (.inr ⟨rfl,pu (by omega) bl3⟩)⟩,by simp;omega,Gh.cut' [6,0,1,2] 1 (by simp -implicitDefEqProofs[H,c13',c30',c35',c54']) (by simp -implicitDefEqProofs[H,c13',c30',c35',c54']) rfl (by simp) (by simp) (by simp)⟩
  have c54':=zN c54;replace H:=And.intro c54 H;refine WpC.skip ?_;have hbn:¬b2<=n:=by simpa using c35
  first
  |have bl3:Bl c f3 (2*k) 0 n:=pt hk p4 p6 m3 t3
  |have bl3:Bl c f2 (2*k) 0 n:=tX hk p4 (by simp at c54;omega) p6 p7
  refine zr ?_;exact⟨(2*k,f2),⟨p5,by rcases hk with rfl|rfl;exact .inr (.inl ⟨rfl,bl3⟩);exact .inr (.inr ⟨rfl,pu (by omega) bl3⟩)⟩,by simp;omega,Gh.cut' [6,0,1,2] 1 (by simp -implicitDefEqProofs[H,c13',c30',c35',c54']) (by simp -implicitDefEqProofs[H,c13',c30',c35',c54']) rfl (by simp) (by simp) (by simp)⟩
 have c30':=zN c30;replace H:=And.intro c30 H;refine WpC.exit ?_;refine⟨.inl rfl,[],rfl,?_,by simp⟩
 have hkn:¬k<n:=by simpa using c30
 exact⟨f,rfl,rfl,p1,by rcases p2 with⟨rfl,q⟩|⟨rfl,q⟩|⟨rfl,q⟩;exact pu (by omega) q;exact pu (by omega) q;exact q⟩
theorem m4 (g:Nat->Int) (n:Nat) (hn:n<=60) (hok:eK ok g n):
 WpF Tryz.prog 82 [.sl 0 n,.fn 83 [.dp [dI cT],.dp [dI cS],.dp [.list 1 cW],.dp [.list 1 cP]]] [.arr 3 1 (aA g n)]
  λr S=>∃h,r= .tup []/\S=[.arr 3 1 (aA h n)]/\Mv 0 n g h/\bz c h 0 n:=by
 have hc:=uj cT cS cW cP hcm hcc g n hn hok;refine WpF.enter tabOk Tryz.func82 rfl (by show 2<=9;decide) ?_
 simp only[Tryz.f82];have H:=trivial;refine WpC.region ?_;refine zO 4 ?_;refine WpO.callP [0] (by simp) rfl (by simp -implicitDefEqProofs[H]<;>rfl) (by simp -implicitDefEqProofs[H]<;>rfl) yB (by simp) (by simp) (by simp) (by simp -implicitDefEqProofs[H]) (by simp;rfl) (by simp -implicitDefEqProofs[H]) (hc) λr S1 hr=>?_
 obtain⟨h,rfl,rfl,m1,t1⟩:=hr;refine⟨_,by simp -implicitDefEqProofs[H]<;>rfl,?_⟩
 refine WpO.nil ?_;refine⟨.inl rfl,[],rfl,?_,by simp⟩
 exact⟨h,rfl,rfl,m1,t1⟩
end
set_option linter.unusedSectionVars false
theorem FE (a b c d:Int) (ha:inA a) (hb:inA b) (hc:inA c) (hd:inA d):ah Tryz.prog 107 [.d (dI a),.d (dI b),.d (dI c),.d (dI d)] (.d (dI (fN (a*b) (c*d)))):=by
 have p1:=l7 a b ha hb;have p2:=l7 c d hc hd;have l1:=nT (c*d).natAbs (a*b).natAbs;have l2:=nT (a*b).natAbs (c*d).natAbs;obtain⟨x,hx⟩:∃x,a*b=x:=⟨_,rfl⟩
 obtain⟨y,hy⟩:∃x,c*d=x:=⟨_,rfl⟩
 rw[hx] at p1 l1 l2 ⊢;rw[hy] at p2 l1 l2 ⊢;obtain⟨u1,hu1⟩:∃q,x.natAbs/18446744073709551616=q:=⟨_,rfl⟩
 obtain⟨u2,hu2⟩:∃q,x.natAbs%18446744073709551616=q:=⟨_,rfl⟩
 obtain⟨v1,hv1⟩:∃q,y.natAbs/18446744073709551616=q:=⟨_,rfl⟩
 obtain⟨v2,hv2⟩:∃q,y.natAbs%18446744073709551616=q:=⟨_,rfl⟩
 rw[hu1,hu2] at p1 l1 l2;rw[hv1,hv2] at p2 l1 l2;clear hu1 hu2 hv1 hv2 hx hy;refine ah.enter tabOk Tryz.func107 rfl (by show 4<=53;decide) ?_
 simp only[Tryz.f107];have H:=trivial;refine qR (by simp -implicitDefEqProofs[ak,H]<;>rfl) ?_
 refine WpC.seq ?_;refine WpC.region ?_;refine WpO.run tabOk 2 (by simp -implicitDefEqProofs[ak,H]<;>first|exact⟨rfl,rfl⟩|rfl) ?_
 refine WpO.data (by simp) rfl (by simp -implicitDefEqProofs[ak,H]<;>rfl) (by simp -implicitDefEqProofs[ak,H]<;>rfl) (by simp -implicitDefEqProofs[ak,H]<;>rfl) qY (by simp) (p1) (by rfl) (by simp -implicitDefEqProofs[ak,H]<;>rfl) ?_
 refine WpO.run tabOk 7 (by simp -implicitDefEqProofs[ak,H]<;>first|exact⟨rfl,rfl⟩|rfl) ?_
 refine WpO.nil ?_;refine WpC.seq ?_;refine WpC.region ?_;refine WpO.run tabOk 2 (by simp -implicitDefEqProofs[ak,H]<;>first|exact⟨rfl,rfl⟩|rfl) ?_
 refine WpO.data (by simp) rfl (by simp -implicitDefEqProofs[ak,H]<;>rfl) (by simp -implicitDefEqProofs[ak,H]<;>rfl) (by simp -implicitDefEqProofs[ak,H]<;>rfl) qY (by simp) (p2) (by rfl) (by simp -implicitDefEqProofs[ak,H]<;>rfl) ?_
 refine WpO.run tabOk 7 (by simp -implicitDefEqProofs[ak,H]<;>first|exact⟨rfl,rfl⟩|rfl) ?_
 refine WpO.nil ?_;refine WpC.seq ?_;refine WpC.block ?_;refine WpC.seq ?_;refine WpC.val 29 (.d (.bool (decide (x<0/\¬y<0)))) ?_ ?_
 ·refine WpC.region ?_;refine WpO.run tabOk 2 (by simp -implicitDefEqProofs[ak,H]<;>first|exact⟨rfl,rfl⟩|rfl) ?_
  refine WpO.splitB 31 (by simp -implicitDefEqProofs[ak,H]<;>rfl) (by rfl) (λg31=>?_) (λg31=>?_)
  ·try(exfalso;revert g31;simp;done)
   all_goals
    have g31':=zN g31;replace H:=And.intro g31 H;refine WpO.run tabOk 4 (by simp -implicitDefEqProofs[ak,H]<;>first|exact⟨rfl,rfl⟩|rfl) ?_
    refine WpO.nil ?_;refine⟨rfl,Gh.only 29 7 ?_ (by first|rfl|simp -implicitDefEqProofs[ak,H]) (by rfl)⟩
    simp -implicitDefEqProofs[ak,H,g31']<;>omega
  ·try(exfalso;revert g31;simp;done)
   all_goals
    have g31':=zN g31;replace H:=And.intro g31 H;refine WpO.run tabOk 4 (by simp -implicitDefEqProofs[ak,H]<;>first|exact⟨rfl,rfl⟩|rfl) ?_
    refine WpO.nil ?_;refine⟨rfl,Gh.only 29 7 ?_ (by first|rfl|simp -implicitDefEqProofs[ak,H]) (by rfl)⟩
    simp -implicitDefEqProofs[ak,H,g31']<;>omega
 refine WpC.condD (x<0/\¬y<0) (by simp -implicitDefEqProofs[ak,H]) (λd29=>?_) (λd29=>?_)
 ·replace H:=And.intro d29 H;refine qR (by simp -implicitDefEqProofs[ak,H]<;>rfl) ?_
  refine WpC.ret ?_;try simp only[aa,aj]
  refine dB (by simp -implicitDefEqProofs[ak,H]<;>rfl) (by simp -implicitDefEqProofs[ak,H]<;>rfl) ?_
  rw[show fN x y= -1 from by unfold fN;rw[if_pos (by omega)]];simp
 replace H:=And.intro d29 H;refine WpC.seq ?_;refine WpC.val 35 (.d (.bool (decide (y<0/\¬x<0)))) ?_ ?_
 ·refine WpC.region ?_;refine WpO.run tabOk 2 (by simp -implicitDefEqProofs[ak,H]<;>first|exact⟨rfl,rfl⟩|rfl) ?_
  refine WpO.splitB 37 (by simp -implicitDefEqProofs[ak,H]<;>rfl) (by rfl) (λg37=>?_) (λg37=>?_)
  ·try(exfalso;revert g37;simp;done)
   all_goals
    have g37':=zN g37;replace H:=And.intro g37 H;refine WpO.run tabOk 4 (by simp -implicitDefEqProofs[ak,H]<;>first|exact⟨rfl,rfl⟩|rfl) ?_
    refine WpO.nil ?_;refine⟨rfl,Gh.only 35 7 ?_ (by first|rfl|simp -implicitDefEqProofs[ak,H]) (by rfl)⟩
    simp -implicitDefEqProofs[ak,H,g37']<;>omega
  ·try(exfalso;revert g37;simp;done)
   all_goals
    have g37':=zN g37;replace H:=And.intro g37 H;refine WpO.run tabOk 4 (by simp -implicitDefEqProofs[ak,H]<;>first|exact⟨rfl,rfl⟩|rfl) ?_
    refine WpO.nil ?_;refine⟨rfl,Gh.only 35 7 ?_ (by first|rfl|simp -implicitDefEqProofs[ak,H]) (by rfl)⟩
    simp -implicitDefEqProofs[ak,H,g37']<;>omega
 refine WpC.condD (y<0/\¬x<0) (by simp -implicitDefEqProofs[ak,H]) (λd35=>?_) (λd35=>?_)
 ·replace H:=And.intro d35 H;refine qR (by simp -implicitDefEqProofs[ak,H]<;>rfl) ?_
  refine WpC.ret ?_;try simp only[aa,aj]
  refine dB (by simp -implicitDefEqProofs[ak,H]<;>rfl) (by simp -implicitDefEqProofs[ak,H]<;>rfl) ?_
  rw[show fN x y=1 from by unfold fN;rw[if_neg (by omega),if_neg (by omega)]];simp
 replace H:=And.intro d35 H;refine qR (by simp -implicitDefEqProofs[ak,H]<;>rfl) ?_
 refine WpC.condD (x<0) (by simp -implicitDefEqProofs[ak,H]) (λd41=>?_) (λd41=>?_)
 ·replace H:=And.intro d41 H;refine WpC.seq ?_;refine WpC.region ?_;refine WpO.run tabOk 4 (by simp -implicitDefEqProofs[ak,H]<;>first|exact⟨rfl,rfl⟩|rfl) ?_
  refine WpO.data (by simp) rfl (by simp -implicitDefEqProofs[ak,H]<;>rfl) (by simp -implicitDefEqProofs[ak,H]<;>rfl) (by simp -implicitDefEqProofs[ak,H]<;>rfl) qX (by simp) (l1) (by rfl) (by simp -implicitDefEqProofs[ak,H]<;>rfl) ?_
  refine WpO.run tabOk 1 (by simp -implicitDefEqProofs[ak,H]<;>first|exact⟨rfl,rfl⟩|rfl) ?_
  refine WpO.nil ?_;refine WpC.ret ?_;try simp only[aa,aj]
  refine dB (by simp -implicitDefEqProofs[ak,H]<;>rfl) (by simp -implicitDefEqProofs[ak,H]<;>rfl) ?_
  have e:fN (y.natAbs:Int) (x.natAbs:Int)=fN x y:=by unfold fN;split<;>(try split)<;>(try split)<;>(try split)<;>omega
  rw[e];simp
 replace H:=And.intro d41 H;refine WpC.skip ?_;refine WpC.seq ?_;refine WpC.region ?_;refine WpO.run tabOk 4 (by simp -implicitDefEqProofs[ak,H]<;>first|exact⟨rfl,rfl⟩|rfl) ?_
 refine WpO.data (by simp) rfl (by simp -implicitDefEqProofs[ak,H]<;>rfl) (by simp -implicitDefEqProofs[ak,H]<;>rfl) (by simp -implicitDefEqProofs[ak,H]<;>rfl) qX (by simp) (l2) (by rfl) (by simp -implicitDefEqProofs[ak,H]<;>rfl) ?_
 refine WpO.run tabOk 1 (by simp -implicitDefEqProofs[ak,H]<;>first|exact⟨rfl,rfl⟩|rfl) ?_
 refine WpO.nil ?_;refine WpC.ret ?_;try simp only[aa,aj]
 refine dB (by simp -implicitDefEqProofs[ak,H]<;>rfl) (by simp -implicitDefEqProofs[ak,H]<;>rfl) ?_
 have e:fN (x.natAbs:Int) (y.natAbs:Int)=fN x y:=by unfold fN;split<;>(try split)<;>(try split)<;>(try split)<;>omega
 rw[e];simp
def fa (T S:Int) (wf pf:Nat->Int) (i j:Nat):Bool:=decide (T*(wf i-wf j)<(pf i-pf j)*S)
def inN (n:Int):Prop:=0<=n/\n<=9223372036854775807
section
variable (T S:Int) (wf pf:Nat->Int) (n:Nat) (hT:inN T) (hS:inN S) (hw:∀i,i<n->inN (wf i)) (hp:∀i,i<n->inN (pf i)) (hn:n<=60)
include hT hS hw hp hn
theorem tc (i j:Nat) (hi:i<n) (hj:j<n):ah Tryz.prog 84 [.d (dI T),.d (dI S),.d (.list 1 (aA wf n)),.d (.list 1 (aA pf n)),.d (dI i),.d (dI j)] (.d (.bool (fa T S wf pf i j))):=by
 have h1:=hw i hi;have h2:=hw j hj;have h3:=hp i hi;have h4:=hp j hj;unfold fa;obtain⟨x,hx⟩:∃x,wf i-wf j=x:=⟨_,rfl⟩
 obtain⟨y,hy⟩:∃x,pf i-pf j=x:=⟨_,rfl⟩
 unfold inN at h1 h2 h3 h4 hT hS;have w1:IntKind.i64.wrap (wf i-wf j)=x:=by rw[hx];exact am (by omega) (by omega)
 have w2:IntKind.i64.wrap (pf i-pf j)=y:=by rw[hy];exact am (by omega) (by omega)
 have hc:=FE T x y S (by unfold inA;omega) (by unfold inA;omega) (by unfold inA;omega) (by unfold inA;omega)
 rw[hx,hy];have hk:(fN (T*x) (y*S)<0)=(T*x<y*S):=propext (by
  unfold fN;generalize T*x=p;generalize y*S=q;by_cases e1:p<q
  ·simp[e1]
  ·by_cases e2:p=q
   ·simp[e2]
   ·simp[e1,e2])
 refine ah.enter tabOk Tryz.func84 rfl (by show 6<=35;decide) ?_
 simp only[Tryz.f84];have H:=And.intro hi (And.intro hj (And.intro w1 (And.intro w2 hk)));refine zR ?_;refine WpC.seq ?_;refine WpC.drawn tabOk (by kernel_rfl) 0 (by simp) ?_
 iterate 6 refine yO 3 ?_
 refine yO 2 ?_;refine yG yA (hc) ?_;refine yO 2 ?_;refine DrO.nil ⟨by kernel_rfl,?_⟩
 refine WpC.ret ?_;try simp only[aa,aj]
 refine zE ?_;simp -implicitDefEqProofs[H]
def cS (T S:Int) (wf pf:Nat->Int) (x y:Int):Int:=if fa T S wf pf y.toNat x.toNat=true then -1 else if fa T S wf pf x.toNat y.toNat=true then 1 else x-y
def okS (n:Nat) (x:Int):Prop:=0<=x/\x<n
theorem Ho (x y:Int) (hx:okS n x) (hy:okS n y):ah Tryz.prog 83 [.d (dI x),.d (dI y),.dp [dI T],.dp [dI S],.dp [.list 1 (aA wf n)],.dp [.list 1 (aA pf n)]] (.d (dI (cS T S wf pf x y))):=by
 obtain⟨i,rfl⟩:∃i:Nat,x=i:=⟨x.toNat,by unfold okS at hx;omega⟩
 obtain⟨j,rfl⟩:∃i:Nat,y=i:=⟨y.toNat,by unfold okS at hy;omega⟩
 have hi:i<n:=by unfold okS at hx;omega
 have hj:j<n:=by unfold okS at hy;omega
 have l1:=tc T S wf pf n hT hS hw hp hn j i hj hi;have l2:=tc T S wf pf n hT hS hw hp hn i j hi hj;have hd:IntKind.i64.wrap ((i:Int)-j)=(i:Int)-j:=am (by omega) (by omega)
 unfold cS;rw[show(i:Int).toNat=i from rfl,show(j:Int).toNat=j from rfl]
 obtain⟨b1,hb1⟩:∃b,fa T S wf pf j i=b:=⟨_,rfl⟩
 obtain⟨b2,hb2⟩:∃b,fa T S wf pf i j=b:=⟨_,rfl⟩
 rw[hb1] at l1 ⊢;rw[hb2] at l2 ⊢;refine ah.enter tabOk Tryz.func83 rfl (by show 6<=28;decide) ?_
 simp only[Tryz.f83];have H:=hd;refine zR ?_;refine WpC.seq ?_;refine WpC.block ?_;refine WpC.seq ?_;refine WpC.region ?_;refine zO 6 ?_;refine zG tK (l1) ?_;refine zO 1 ?_;refine WpO.nil ?_;refine zC (λc9=>?_) (λc9=>?_)
 ·have c9':=zN c9;replace H:=And.intro c9 H;refine zR ?_;refine WpC.ret ?_;try simp only[aa,aj]
  refine zE ?_;simp -implicitDefEqProofs[H]
 have c9':=zN c9;replace H:=And.intro c9 H;refine WpC.seq ?_;refine WpC.region ?_;refine zO 6 ?_;refine zG tK (l2) ?_;refine zO 1 ?_;refine WpO.nil ?_;refine zC (λc17=>?_) (λc17=>?_)
 ·have c17':=zN c17;replace H:=And.intro c17 H;refine zR ?_;refine WpC.ret ?_;try simp only[aa,aj]
  refine zE ?_;simp -implicitDefEqProofs[H]
 have c17':=zN c17;replace H:=And.intro c17 H;refine WpC.skip ?_;refine zR ?_;refine WpC.ret ?_;try simp only[aa,aj]
 refine zE ?_;simp -implicitDefEqProofs[H]
omit hT hS hw hp hn in
theorem yE:Cmp (cS T S wf pf) (okS n):=by
 have key:∀x y:Int,okS n x->okS n y->(cS T S wf pf x y<0↔(T*wf y.toNat-pf y.toNat*S<T*wf x.toNat-pf x.toNat*S\/(T*wf y.toNat-pf y.toNat*S=T*wf x.toNat-pf x.toNat*S/\x<y))):=by
  intro x y hx hy;have e:∀i j,fa T S wf pf i j=true↔T*wf i-pf i*S<T*wf j-pf j*S:=λi j=>by
   unfold fa;rw[decide_eq_true_iff,Int.mul_sub,Int.sub_mul];omega
  unfold cS;by_cases h1:fa T S wf pf y.toNat x.toNat=true
  ·rw[if_pos h1];have:=(e _ _).1 h1;omega
  ·rw[if_neg h1];have h1':¬_:=λq=>h1 ((e _ _).2 q)
   by_cases h2:fa T S wf pf x.toNat y.toNat=true
   ·rw[if_pos h2];have:=(e _ _).1 h2;omega
   ·rw[if_neg h2];have h2':¬_:=λq=>h2 ((e _ _).2 q)
    omega
 refine⟨λx y hx hy h=>?_,λx y z hx hy hz h1 h2=>?_,λx y hx hy h=>?_⟩
 ·rw[key _ _ hx hy] at h;rw[key _ _ hy hx];omega
 ·rw[key _ _ hx hy] at h1;rw[key _ _ hy hz] at h2;rw[key _ _ hx hz];omega
 ·rw[key _ _ hx hy,key _ _ hy hx];omega
end
end Go.Proofs.YtlhmejigmokbhaaGreatDoor.Pay
