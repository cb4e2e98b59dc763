/- The texts ShA, ShB, ShD, one behind the other. No statement of the seed is proved here. -/
import Derived.Test.YtlhmejigmokbhaaGreatDoorMgBD
namespace Go.Proofs.YtlhmejigmokbhaaGreatDoor.Pay
open Go Go.RowKit
set_option linter.unusedVariables false
set_option linter.unusedSimpArgs false
def bT (op:List UInt8):Int:=
 if op==[105,102] then 0 else if op==[60] then 1 else if op==[60,61] then 1 else if op==[61] then 1 else if op==[60,62] then 1 else if op==[62] then 1 else if op==[62,61] then 1
 else if op==[43] then 2 else if op==[45] then 2 else if op==[42] then 3 else 4
theorem qm (op:List UInt8):ah Tryz.prog 204 [.d (.str op)] (.d (dI (bT op))):=by
 refine ah.enter tabOk Tryz.func204 rfl (by show 1<=18;decide) ?_
 simp only[Tryz.f204];have H:=trivial;refine zR ?_;refine WpC.seq ?_;refine zR ?_;refine WpC.block ?_;refine zR ?_;refine zC (λc4=>?_) (λc4=>?_)
 ·have c4':=zN c4;replace H:=And.intro c4 H;refine zR ?_;refine WpC.ret ?_;try simp only[aa,aj]
  refine zE ?_;simp_all [bT]
 have c4':=zN c4;replace H:=And.intro c4 H;refine WpC.seq ?_;refine zR ?_;refine zC (λc6=>?_) (λc6=>?_)
 ·have c6':=zN c6;replace H:=And.intro c6 H;refine WpC.skip ?_;refine zT ?_;refine zR ?_;refine WpC.ret ?_;try simp only[aa,aj]
  refine zE ?_;simp_all [bT]
 have c6':=zN c6;replace H:=And.intro c6 H;refine zR ?_;refine zC (λc6=>?_) (λc6=>?_)
 ·have c6':=zN c6;replace H:=And.intro c6 H;refine WpC.skip ?_;refine zT ?_;refine zR ?_;refine WpC.ret ?_;try simp only[aa,aj]
  refine zE ?_;simp_all [bT]
 have c6':=zN c6;replace H:=And.intro c6 H;refine zR ?_;refine zC (λc6=>?_) (λc6=>?_)
 ·have c6':=zN c6;replace H:=And.intro c6 H;refine WpC.skip ?_;refine zT ?_;refine zR ?_;refine WpC.ret ?_;try simp only[aa,aj]
  refine zE ?_;simp_all [bT]
 have c6':=zN c6;replace H:=And.intro c6 H;refine zR ?_;refine zC (λc6=>?_) (λc6=>?_)
 ·have c6':=zN c6;replace H:=And.intro c6 H;refine WpC.skip ?_;refine zT ?_;refine zR ?_;refine WpC.ret ?_;try simp only[aa,aj]
  refine zE ?_;simp_all [bT]
 have c6':=zN c6;replace H:=And.intro c6 H;refine zR ?_;refine zC (λc6=>?_) (λc6=>?_)
 ·have c6':=zN c6;replace H:=And.intro c6 H;refine WpC.skip ?_;refine zT ?_;refine zR ?_;refine WpC.ret ?_;try simp only[aa,aj]
  refine zE ?_;simp_all [bT]
 have c6':=zN c6;replace H:=And.intro c6 H;refine zr ?_;refine zC (λc6=>?_) (λc6=>?_)
 ·have c6':=zN c6;replace H:=And.intro c6 H;refine zR ?_;refine WpC.ret ?_;try simp only[aa,aj]
  refine zE ?_;simp_all [bT]
 have c6':=zN c6;replace H:=And.intro c6 H;refine WpC.seq ?_;refine zR ?_;refine zC (λc13=>?_) (λc13=>?_)
 ·have c13':=zN c13;replace H:=And.intro c13 H;refine WpC.skip ?_;refine zT ?_;refine zR ?_;refine WpC.ret ?_;try simp only[aa,aj]
  refine zE ?_;simp_all [bT]
 have c13':=zN c13;replace H:=And.intro c13 H;refine zr ?_;refine zC (λc13=>?_) (λc13=>?_)
 ·have c13':=zN c13;replace H:=And.intro c13 H;refine zR ?_;refine WpC.ret ?_;try simp only[aa,aj]
  refine zE ?_;simp_all [bT]
 have c13':=zN c13;replace H:=And.intro c13 H;refine zR ?_;refine zC (λc16=>?_) (λc16=>?_)
 ·have c16':=zN c16;replace H:=And.intro c16 H;refine zR ?_;refine WpC.ret ?_;try simp only[aa,aj]
  refine zE ?_;simp_all [bT]
 have c16':=zN c16;replace H:=And.intro c16 H;refine WpC.skip ?_;refine zR ?_;refine WpC.ret ?_;try simp only[aa,aj]
 refine zE ?_;simp_all [bT]
theorem wR (op:List UInt8):0<=bT op/\bT op<=4:=by
 unfold bT;repeat' split
 all_goals omega
def gV (x:Ex):List UInt8:=
 if x.op==[119,104,111,108,101] then Lib.itoa x.val
 else if x.op==[97,109,111,117,110,116] then(if aD x.val=true then lM x.val else [])
 else if x.op==[114,97,116,101] then(if cG x.val=true then vz x.val else [])
 else if x.op==[110,97,109,101] then x.name
 else []
theorem vA (n:Int) (h0: -9223372036854775808<=n) (h1:n<=9223372036854775807):∃e:Int,ah Tryz.prog 110 [.d (dI n)] (.tup [.d (.str (if aD n=true then lM n else [])),.d (dI e)]):=by
 by_cases h:aD n=true
 ·rw[if_pos h];exact⟨0,oo n (by simpa[aD] using h) h1⟩
 ·rw[if_neg h];exact⟨3,yT n (by simpa using h)⟩
theorem vw (n:Int):∃e:Int,ah Tryz.prog 218 [.d (dI n)] (.tup [.d (.str (if cG n=true then vz n else [])),.d (dI e)]):=by
 by_cases h:cG n=true
 ·rw[if_pos h];exact⟨0,yQ n h⟩
 ·rw[if_neg h];exact⟨1,yR n (by simpa using h)⟩
theorem wU (x:Ex) (h0: -9223372036854775808<=x.val) (h1:x.val<=9223372036854775807):ah Tryz.prog 213 [.d x.enc] (.d (.str (gV x))):=by
 have hi:=oZ x.val h0 h1;obtain⟨e1,hm⟩:=vA x.val h0 h1;obtain⟨e2,hr⟩:=vw x.val;refine ah.enter tabOk Tryz.func213 rfl (by show 1<=32;decide) ?_
 simp only[Tryz.f213];have H:=trivial;iterate 2 refine zR ?_
 refine WpC.seq ?_;refine zR ?_;refine WpC.block ?_;refine zR ?_;refine zC (λc6=>?_) (λc6=>?_)
 ·have c6':=zN c6;replace H:=And.intro c6 H;refine WpC.region ?_;refine zO 2 ?_;refine zG g_ (hi) ?_;refine zO 1 ?_;refine WpO.nil ?_;refine zR ?_;refine WpC.ret ?_;try simp only[aa,aj]
  refine zE ?_;simp_all [gV]
 have c6':=zN c6;replace H:=And.intro c6 H;refine zR ?_;refine zC (λc11=>?_) (λc11=>?_)
 ·have c11':=zN c11;replace H:=And.intro c11 H;refine WpC.region ?_;refine zO 2 ?_;refine zG jN (hm) ?_;refine zO 4 ?_;refine WpO.nil ?_;refine zR ?_;refine WpC.ret ?_;try simp only[aa,aj]
  refine zE ?_;simp_all [gV]
 have c11':=zN c11;replace H:=And.intro c11 H;refine zR ?_;refine zC (λc19=>?_) (λc19=>?_)
 ·have c19':=zN c19;replace H:=And.intro c19 H;refine WpC.region ?_;refine zO 2 ?_;refine zG xZ (hr) ?_;refine zO 4 ?_;refine WpO.nil ?_;refine zR ?_;refine WpC.ret ?_;try simp only[aa,aj]
  refine zE ?_;simp_all [gV]
 have c19':=zN c19;replace H:=And.intro c19 H;refine zR ?_;refine zC (λc27=>?_) (λc27=>?_)
 ·have c27':=zN c27;replace H:=And.intro c27 H;refine zr ?_;refine zR ?_;refine WpC.ret ?_;try simp only[aa,aj]
  refine zE ?_;simp_all [gV]
 have c27':=zN c27;replace H:=And.intro c27 H;refine WpC.skip ?_;refine zR ?_;refine WpC.ret ?_;try simp only[aa,aj]
 refine zE ?_;simp_all [gV]
structure It where
 s:List UInt8
 i:Int
 least:Int
 deriving DecidableEq,Inhabited
@[reducible] def It.cs (p:It):List D:=[.str p.s,dI p.i,dI p.least]
@[reducible] def It.enc (p:It):D:= .agg p.cs
@[reducible] def kR:TypeId:=282
def dD (x:Ex):List It:=
 if gV x != [] then [⟨gV x,0,0⟩]
 else if x.op==[110,101,103] then [⟨[45],0,0⟩,⟨[],x.a,4⟩]
 else if x.op==[109,105,110]||x.op==[109,97,120] then [⟨x.op++[40],0,0⟩,⟨[],x.a,0⟩,⟨[44,32],0,0⟩,⟨[],x.b,0⟩,⟨[41],0,0⟩]
 else if x.op==[105,102] then [⟨[105,102,32],0,0⟩,⟨[],x.a,0⟩,⟨[32,116,104,101,110,32],0,0⟩,⟨[],x.b,0⟩,⟨[32,101,108,115,101,32],0,0⟩,⟨[],x.c,0⟩]
 else [⟨[],x.a,max (bT x.op) 2⟩,⟨[32]++x.op++[32],0,0⟩,⟨[],x.b,bT x.op+1⟩]
theorem uy (x:Ex) (h0: -9223372036854775808<=x.val) (h1:x.val<=9223372036854775807) (ho:x.op.length<=1000):jV Tryz.prog 203 [.d x.enc] kR 3 ((dD x).map It.enc):=by
 have hl:=wU x h0 h1;have hv:=qm x.op;have hv1:=wR x.op;obtain⟨s,hs⟩:∃s,gV x=s:=⟨_,rfl⟩
 obtain⟨v,hvv⟩:∃s,bT x.op=s:=⟨_,rfl⟩
 rw[hs] at hl;rw[hvv] at hv hv1;have hw:IntKind.i64.wrap (v+1)=v+1:=am (by omega) (by omega)
 have hP:dD x=if s != [] then [⟨s,0,0⟩]
  else if x.op==[110,101,103] then [⟨[45],0,0⟩,⟨[],x.a,4⟩]
  else if x.op==[109,105,110]||x.op==[109,97,120] then [⟨x.op++[40],0,0⟩,⟨[],x.a,0⟩,⟨[44,32],0,0⟩,⟨[],x.b,0⟩,⟨[41],0,0⟩]
  else if x.op==[105,102] then [⟨[105,102,32],0,0⟩,⟨[],x.a,0⟩,⟨[32,116,104,101,110,32],0,0⟩,⟨[],x.b,0⟩,⟨[32,101,108,115,101,32],0,0⟩,⟨[],x.c,0⟩]
  else [⟨[],x.a,max v 2⟩,⟨[32]++x.op++[32],0,0⟩,⟨[],x.b,v+1⟩]:=by rw[dD,hs,hvv]
 have ho1:¬9223372036854775807<(x.op.length:Int)+1:=by omega
 have ho2:¬9223372036854775807<1+(x.op.length:Int):=by omega
 have ho3:¬9223372036854775807<(x.op.length:Int)+1+1:=by omega
 obtain⟨L,hL⟩:∃L,dD x=L:=⟨_,rfl⟩
 rw[hL] at hP ⊢;refine WpF.enter tabOk Tryz.func203 rfl (by show 1<=71;decide) ?_
 simp only[Tryz.f203];have H:=And.intro hw (And.intro ho1 (And.intro ho2 ho3));refine zR ?_;refine WpC.seq ?_;refine WpC.seq ?_;refine WpC.region ?_;refine zO 1 ?_;refine zG x6 (hl) ?_;refine zO 1 ?_;refine WpO.nil ?_;refine zR ?_;refine zC (λc8=>?_) (λc8=>?_)
 ·have c8':=zN c8;replace H:=And.intro c8 H;refine zR ?_;have e:L=[⟨s,0,0⟩]:=by rw[hP];simp[*]
  clear hP hL;subst e;refine WpC.gh (Gh.pick [2] [1] (by simp;rfl) (env':=[(2,.sl 0 _)]) (by simp<;>rfl) (by simp) (by simp) (by simp;rfl) (S':=[.arr kR 3 _]) (by simp<;>rfl) (by simp)) (WpC.ret ?_)
  simp
 have c8':=zN c8;replace H:=And.intro c8 H;refine WpC.skip ?_;refine WpC.seq ?_;refine zR ?_;refine WpC.block ?_;refine zR ?_;refine zC (λc14=>?_) (λc14=>?_)
 ·have c14':=zN c14;replace H:=And.intro c14 H;refine zR ?_;have e:L=[⟨[45],0,0⟩,⟨[],x.a,4⟩]:=by rw[hP];simp[*]
  clear hP hL;subst e;refine WpC.gh (Gh.pick [2] [1] (by simp;rfl) (env':=[(2,.sl 0 _)]) (by simp<;>rfl) (by simp) (by simp) (by simp;rfl) (S':=[.arr kR 3 _]) (by simp<;>rfl) (by simp)) (WpC.ret ?_)
  simp
 have c14':=zN c14;replace H:=And.intro c14 H;refine WpC.seq ?_;refine zR ?_;refine zC (λc21=>?_) (λc21=>?_)
 ·have c21':=zN c21;replace H:=And.intro c21 H;refine WpC.skip ?_;refine zT ?_;refine zR ?_;have e:L=[⟨x.op++[40],0,0⟩,⟨[],x.a,0⟩,⟨[44,32],0,0⟩,⟨[],x.b,0⟩,⟨[41],0,0⟩]:=by rw[hP];simp[*]
  clear hP hL;subst e;refine WpC.gh (Gh.pick [2] [1] (by simp;rfl) (env':=[(2,.sl 0 _)]) (by simp<;>rfl) (by simp) (by simp) (by simp;rfl) (S':=[.arr kR 3 _]) (by simp<;>rfl) (by simp)) (WpC.ret ?_)
  simp
 have c21':=zN c21;replace H:=And.intro c21 H;refine zr ?_;refine zC (λc21=>?_) (λc21=>?_)
 ·have c21':=zN c21;replace H:=And.intro c21 H;refine zR ?_;have e:L=[⟨x.op++[40],0,0⟩,⟨[],x.a,0⟩,⟨[44,32],0,0⟩,⟨[],x.b,0⟩,⟨[41],0,0⟩]:=by rw[hP];simp[*]
  clear hP hL;subst e;refine WpC.gh (Gh.pick [2] [1] (by simp;rfl) (env':=[(2,.sl 0 _)]) (by simp<;>rfl) (by simp) (by simp) (by simp;rfl) (S':=[.arr kR 3 _]) (by simp<;>rfl) (by simp)) (WpC.ret ?_)
  simp
 have c21':=zN c21;replace H:=And.intro c21 H;refine zR ?_;refine zC (λc37=>?_) (λc37=>?_)
 ·have c37':=zN c37;replace H:=And.intro c37 H;refine zR ?_;have e:L=[⟨[105,102,32],0,0⟩,⟨[],x.a,0⟩,⟨[32,116,104,101,110,32],0,0⟩,⟨[],x.b,0⟩,⟨[32,101,108,115,101,32],0,0⟩,⟨[],x.c,0⟩]:=by rw[hP];simp[*]
  clear hP hL;subst e;refine WpC.gh (Gh.pick [2] [1] (by simp;rfl) (env':=[(2,.sl 0 _)]) (by simp<;>rfl) (by simp) (by simp) (by simp;rfl) (S':=[.arr kR 3 _]) (by simp<;>rfl) (by simp)) (WpC.ret ?_)
  simp
 have c37':=zN c37;replace H:=And.intro c37 H;refine WpC.skip ?_;refine WpC.seq ?_;refine WpC.region ?_;refine zO 2 ?_;refine zG qT (hv) ?_;refine zO 1 ?_;refine WpO.nil ?_;refine zR ?_;have e:L=[⟨[],x.a,max v 2⟩,⟨[32]++x.op++[32],0,0⟩,⟨[],x.b,v+1⟩]:=by rw[hP];simp[*]
 clear hP hL;subst e;refine WpC.gh (Gh.pick [2] [1] (by simp;rfl) (env':=[(2,.sl 0 _)]) (by simp<;>rfl) (by simp) (by simp) (by simp;rfl) (S':=[.arr kR 3 _]) (by simp<;>rfl) (by simp)) (WpC.ret ?_)
 simp
def Rv (l:List It) (k:Nat):List It:=(List.range l.length).map λp=>if p<k\/l.length<=p+k then l.getD (l.length-1-p) default else l.getD p default
theorem j6 (l:List It) (k:Nat):(Rv l k).length=l.length:=by simp[Rv]
theorem j7 (l:List It) (k p:Nat) (h:p<(Rv l k).length):(Rv l k)[p]=if p<k\/l.length<=p+k then l.getD (l.length-1-p) default else l.getD p default:=by simp[Rv]
theorem AS (l:List It):Rv l 0=l:=by
 refine List.ext_getElem (j6 l 0) λp h1 h2=>?_
 rw[j7,if_neg (by omega),List.getD_eq_getElem?_getD,List.getElem?_eq_getElem h2];rfl
theorem Fi (l:List It) (k:Nat) (h:l.length<=2*k+1):Rv l k=l.reverse:=by
 refine List.ext_getElem (by rw[j6,List.length_reverse]) λp h1 h2=>?_
 rw[j6] at h1;rw[j7,List.getElem_reverse];split
 ·rw[List.getD_eq_getElem?_getD,List.getElem?_eq_getElem (by omega)];rfl
 ·have:p=l.length-1-p:=by omega
  rw[List.getD_eq_getElem?_getD,List.getElem?_eq_getElem h1,Option.getD_some];congr 1
theorem AT (l:List It) (a b:Nat) (h:a+b+1=l.length) (hab:a<b) (ha:a<(Rv l a).length) (hb:b<(Rv l a).length):((Rv l a).set a ((Rv l a)[b])).set b ((Rv l a)[a])=Rv l (a+1):=by
 have eA:=j7 l a a ha;have eB:=j7 l a b hb;obtain⟨A,hA⟩:∃A,(Rv l a)[a]=A:=⟨_,rfl⟩
 obtain⟨B,hB⟩:∃A,(Rv l a)[b]=A:=⟨_,rfl⟩
 rw[hA] at eA ⊢;rw[hB] at eB ⊢;rw[if_neg (by omega)] at eA eB
 refine List.ext_getElem (by simp[j6]) λp h1 h2=>?_
 rw[j7,List.getElem_set,List.getElem_set];rw[j6] at h2;split
 ·rename_i e;subst e;rw[if_pos (by omega),eA]
  congr 1;omega
 ·split
  ·rename_i _ e;subst e;rw[if_pos (by omega),eB]
   congr 1;omega
  ·rw[j7];by_cases hc:p<a\/l.length<=p+a
   ·rw[if_pos hc,if_pos (by omega)]
   ·rw[if_neg hc,if_neg (by omega)]
theorem sM (l:List It) (hl:l.length<=500000000) (hl1:1<=l.length):WpF Tryz.prog 205 [.sl 0 l.length] [.arr kR 3 (l.map It.enc)]
 λr S=>r= .tup []/\S=[.arr kR 3 (l.reverse.map It.enc)]:=by
 have hv0:=AS l;have hw0:IntKind.i64.wrap ((l.length:Int)-1)=((l.length-1:Nat):Int):=by rw[am (by omega) (by omega)];omega
 refine WpF.enter tabOk Tryz.func205 rfl (by show 1<=28;decide) ?_
 simp only[Tryz.f205];have H:=And.intro hv0 hw0;refine zR ?_;refine WpC.block ?_;refine WpC.loopM [0] [2,3] (λx=>l.length-2*x.1) ((0,l.length-1):Nat×Nat) (λx=>[(2,.d (dI x.1)),(3,.d (dI x.2))]) (λx=>[.arr kR 3 ((Rv l x.1).map It.enc)]) (λx=>x.1+x.2+1=l.length/\x.1<=x.2+1) (by simp -implicitDefEqProofs[H]<;>rfl) (Gh.cut' [2,3,0] 1 (by simp -implicitDefEqProofs[H]) (by simp -implicitDefEqProofs[H]) rfl (by simp) (by simp) (by simp)) (⟨by simp only;omega,by simp⟩) ?_
 rintro x hi;simp only[List.cons_append,List.nil_append];obtain⟨a,b⟩:=x;obtain⟨i1,i2⟩:=hi;simp only at i1 i2 ⊢;refine WpC.seq ?_;refine zR ?_;refine zD ((a:Int)<b) (λd9=>?_) (λd9=>?_)
 ·have hab:a<b:=by omega
  have hR:=j6 l a;have hst:=AT l a b i1 hab (by omega) (by omega)
  have hw1:IntKind.i64.wrap ((a:Int)+1)=((a+1:Nat):Int):=by rw[am (by omega) (by omega)];omega
  have hw2:IntKind.i64.wrap ((b:Int)-1)=((b-1:Nat):Int):=by rw[am (by omega) (by omega)];omega
  obtain⟨R,hRR⟩:∃R,Rv l a=R:=⟨_,rfl⟩
  obtain⟨R2,hRR2⟩:∃R,Rv l (a+1)=R:=⟨_,rfl⟩
  simp only[hRR] at hst hR ⊢;have hla:a<R.length:=by omega
  have hlb:b<R.length:=by omega
  obtain⟨p,hp⟩:∃p,R[a]=p:=⟨_,rfl⟩
  obtain⟨q,hq⟩:∃p,R[b]=p:=⟨_,rfl⟩
  have hba:¬b=a:=by omega
  rw[hp,hq,hRR2] at hst;have hg2:∀v h,((R.map It.enc).set a v)[b]'h=D.agg [.str q.s,dI q.i,dI q.least]:=λv h=>by rw[List.getElem_set_ne (by omega),List.getElem_map,hq]
  have hsw:((R.map It.enc).set a (D.agg [.str q.s,dI q.i,dI q.least])).set b (D.agg [.str p.s,dI p.i,dI p.least])=R2.map It.enc:=by rw[<-hst];simp
  have hlR:l.length=R.length:=by omega
  replace H:=And.intro d9 (And.intro hw1 (And.intro hw2 (And.intro hla (And.intro hlb (And.intro hp (And.intro hq (And.intro hg2 (And.intro hsw (And.intro hRR2 (And.intro hlR H))))))))));refine WpC.skip ?_;refine WpC.seq ?_;refine WpC.block ?_;refine WpC.drawn tabOk (by kernel_rfl) 0 (by simp) ?_
  iterate 5 refine yO 3 ?_
  refine yO 1 ?_;refine DrO.nil ⟨by kernel_rfl,?_⟩
  refine zr ?_;exact⟨(a+1,b-1),⟨by simp only;omega,by simp only;omega⟩,by simp only;omega,Gh.cut' [2,3,0] 1 (by simp -implicitDefEqProofs[H]) (by simp -implicitDefEqProofs[H]) rfl (by simp) (by simp) (by simp)⟩
 have hre:=Fi l a (by omega)
 replace H:=And.intro d9 H;refine WpC.exit ?_;refine⟨.inl rfl,_,by simp -implicitDefEqProofs<;>rfl,⟨by simp,by simp[hre]⟩,by simp⟩
def gG (X:List Ex):Prop:=∀(j:Nat) (x:Ex),X[j]?=some x->(0<=x.a/\x.a<max (j:Int) 1)/\(0<=x.b/\x.b<max (j:Int) 1)/\(0<=x.c/\x.c<max (j:Int) 1)/\x.op.length<=12/\x.name.length<=12
def gL (i:Nat) (n:Int):Bool:=decide (n<0)||decide (max (i:Int) 1<=n)
def kx (x:Ex):Bool:=decide ((12:Int)<x.op.length)||decide ((12:Int)<x.name.length)
def gm (i:Nat) (x:Ex):Bool:=(gL i x.a||gL i x.b||gL i x.c)||kx x
def gb (n:Nat) (r:Ru):Bool:=decide (r.root<0)||decide ((n:Int)<=r.root)||decide ((12:Int)<r.kind.length)||decide ((12:Int)<r.name.length)
def dm (R:List Ru) (X:List Ex):Bool:=!(List.range X.length).any (λi=>gm i (X.getD i default))&&!R.any (gb X.length)&&decide ((R.length:Int)<=60)
theorem pO {R:List Ru} {X:List Ex} {i:Nat} (hi:i<X.length) (h:gm i (X.getD i default)=true):dm R X=false:=by
 have:(List.range X.length).any (λi=>gm i (X.getD i default))=true:=List.any_eq_true.2 ⟨i,List.mem_range.2 hi,h⟩
 rw[dm,this];rfl
theorem vW {R:List Ru} {X:List Ex} {r:Ru} (hi:r∈R) (h:gb X.length r=true):dm R X=false:=by
 have:R.any (gb X.length)=true:=List.any_eq_true.2 ⟨r,hi,h⟩;rw[dm,this];simp
theorem un {R:List Ru} {X:List Ex} (h1:∀i,i<X.length->gm i (X.getD i default)=false) (h2:R.any (gb X.length)=false):dm R X=decide ((R.length:Int)<=60):=by
 have:(List.range X.length).any (λi=>gm i (X.getD i default))=false:=List.any_eq_false.2 λi hi=>by simpa using h1 i (List.mem_range.1 hi)
 rw[dm,this,h2];simp
theorem gD {R:List Ru} {X:List Ex} (h:dm R X=true):gG X/\(∀r∈R,(0<=r.root/\r.root<X.length)/\r.kind.length<=12/\r.name.length<=12)/\R.length<=60:=by
 simp only[dm,Bool.and_eq_true,Bool.not_eq_true',decide_eq_true_eq,List.any_eq_false] at h;obtain⟨⟨h1,h2⟩,h3⟩:=h;refine⟨λj x hx=>?_,λr hr=>?_,by omega⟩
 ·have hj:j<X.length:=(List.getElem?_eq_some_iff.1 hx).1;have:=h1 j (List.mem_range.2 hj);rw[List.getD_eq_getElem?_getD,hx,Option.getD_some] at this;simp only[gm,kx,gL,Bool.not_eq_true,Bool.or_eq_false_iff,decide_eq_false_iff_not] at this;omega
 ·have:=h2 r hr;simp only[gb,Bool.not_eq_true,Bool.or_eq_false_iff,decide_eq_false_iff_not] at this;omega
set_option maxHeartbeats 2000000 in
theorem vX (R:List Ru) (X:List Ex) (hR:R.length<=500000000) (hX:X.length<=500000000):ah Tryz.prog 158 [.d (.agg [aL R,aM X])] (.d (.bool (dm R X))):=by
 refine ah.enter tabOk Tryz.func158 rfl (by show 1<=84;decide) ?_
 simp only[Tryz.f158];have H:=trivial;refine zR ?_;refine WpC.seq ?_;refine zR ?_;refine WpC.block ?_;refine WpC.loopK [1,10,11] [12] (X.length) (():Unit) (λk _=>[(12,.d (.int .i64 k))]) (λk _=>[.cells 41 [.d (aL R),.d (aM X)]]) (λk _=>∀j,j<k->gm j (X.getD j default)=false) (by simp -implicitDefEqProofs[H]<;>rfl) (Gh.cut' [12,1,10,11] 1 (by simp -implicitDefEqProofs[H]) (by simp -implicitDefEqProofs[H]) rfl (by simp) (by simp) (by simp)) (by simp) ?_
 rintro k ⟨⟩ hk hi;simp only[List.cons_append,List.nil_append];refine zR ?_;refine WpC.seq (zL (k<X.length) (λhlt=>?_) (λhge=>?_))
 ·refine WpC.skip ?_;obtain⟨i,hik⟩:∃i:Nat,i=k:=⟨k,rfl⟩
  subst hik;have hiO:=hi;have hil:i<X.length:=hlt;obtain⟨x,hx⟩:∃x,X[i]=x:=⟨_,rfl⟩
  have hxd:X.getD i default=x:=by rw[List.getD_eq_getElem?_getD,List.getElem?_eq_getElem hil,hx];rfl
  have hw:IntKind.i64.wrap ((i:Int)+1)=i+1:=am (by omega) (by omega)
  replace H:=And.intro hlt (And.intro hil (And.intro hx (And.intro hw H)));refine WpC.seq ?_;refine WpC.block ?_;refine zR ?_;refine WpC.seq ?_;refine zR ?_;refine WpC.block ?_;refine WpC.loopK [1,3,4,10,11,12,23,24] [25] ((3:Nat)) (():Unit) (λk _=>[(25,.d (.int .i64 k))]) (λk _=>[.cells 41 [.d (aL R),.d (aM X)],.cells pK [.d (.str x.op),.d (.str x.name),.d (dI x.val),.d (dI x.a),.d (dI x.b),.d (dI x.c)],.arr 3 1 [dI x.a,dI x.b,dI x.c]]) (λk _=>∀j,j<k->gL i ([x.a,x.b,x.c].getD j 0)=false) (by simp -implicitDefEqProofs[H]<;>rfl) (Gh.cut' [25,1,3,4,10,11,12,23,24] 3 (by simp -implicitDefEqProofs[H]) (by simp -implicitDefEqProofs[H]) rfl (by simp) (by simp) (by simp)) (by simp) ?_
  rintro k ⟨⟩ hk hi;simp only[List.cons_append,List.nil_append];refine zR ?_;refine WpC.seq (zL (k<(3:Nat)) (λhlt=>?_) (λhge=>?_))
  ·refine WpC.skip ?_;have hk3:k<3:=by omega
   obtain⟨v,hv⟩:∃v,[x.a,x.b,x.c].getD k 0=v:=⟨_,rfl⟩
   have hgv:∀h:k<[dI x.a,dI x.b,dI x.c].length,[dI x.a,dI x.b,dI x.c][k]'h=dI v:=by
    rw[<-hv];rcases(by omega:k=0\/k=1\/k=2) with rfl|rfl|rfl<;>intro h<;>rfl
   have hw3:IntKind.i64.wrap ((k:Int)+1)=k+1:=am (by omega) (by omega)
   replace H:=And.intro hlt (And.intro hk3 (And.intro hgv (And.intro hw3 H)));refine WpC.seq ?_;refine WpC.block ?_;refine zR ?_;refine WpC.seq ?_;refine WpC.val 36 (.d (.bool (gL i v))) ?_ ?_
   ·refine WpC.region ?_;refine zO 3 ?_;refine zS 31 (λg31=>?_) (λg31=>?_)
    ·have g31':=zN g31;replace H:=And.intro g31 H;refine zO 5 ?_;refine WpO.nil ?_;refine⟨rfl,Gh.only 36 9 ?_ (by first|rfl|simp -implicitDefEqProofs[H]) (by rfl)⟩
     simp -implicitDefEqProofs[H,g31',gL]
    have g31':=zN g31;replace H:=And.intro g31 H;refine zO 5 ?_;refine WpO.nil ?_;refine⟨rfl,Gh.only 36 9 ?_ (by first|rfl|simp -implicitDefEqProofs[H]) (by rfl)⟩
    simp -implicitDefEqProofs[H,g31',gL]
   refine zC (λc36=>?_) (λc36=>?_)
   ·have c36':=zN c36;replace H:=And.intro c36 H;refine zR ?_;refine WpC.ret ?_;try simp only[aa,aj]
    refine zE ?_;have hb:gm i x=true:=by
     rcases(by omega:k=0\/k=1\/k=2) with rfl|rfl|rfl<;>simp at hv<;>subst hv<;>simp[gm,c36]
    have:=pO (R:=R) hil (by rw[hxd];exact hb)
    simp[this]
   have c36':=zN c36;replace H:=And.intro c36 H;refine WpC.skip ?_;refine zr ?_;exact⟨hlt,(),by
    intro j hj;rcases Nat.lt_succ_iff_lt_or_eq.1 hj with h|h
    ·exact hi j h
    ·subst h;rw[hv];exact c36,Gh.cut' [25,1,3,4,10,11,12,23,24] 3 (by simp -implicitDefEqProofs[H,c36']) (by simp -implicitDefEqProofs[H,c36']) rfl (by simp) (by simp) (by simp)⟩
  refine WpC.exit ?_;have hkn:k=(3:Nat):=by omega
  subst hkn;have hpts:(gL i x.a||gL i x.b||gL i x.c)=false:=by
   have h0:=hi 0 (by omega)
   have h1:=hi 1 (by omega)
   have h2:=hi 2 (by omega)
   simp only[List.getD_cons_zero,List.getD_cons_succ] at h0 h1 h2;rw[h0,h1,h2];rfl
  refine WpC.seq ?_;refine WpC.val 47 (.d (.bool (kx x))) ?_ ?_
  ·refine WpC.region ?_;refine zO 5 ?_;refine zS 42 (λg42=>?_) (λg42=>?_)
   ·have g42':=zN g42;replace H:=And.intro g42 H;refine zO 5 ?_;refine WpO.nil ?_;refine⟨rfl,Gh.only 47 11 ?_ (by first|rfl|simp -implicitDefEqProofs[H]) (by rfl)⟩
    simp -implicitDefEqProofs[H,g42',kx]
   have g42':=zN g42;replace H:=And.intro g42 H;refine zO 5 ?_;refine WpO.nil ?_;refine⟨rfl,Gh.only 47 11 ?_ (by first|rfl|simp -implicitDefEqProofs[H]) (by rfl)⟩
   simp -implicitDefEqProofs[H,g42',kx]
  refine zC (λc47=>?_) (λc47=>?_)
  ·have c47':=zN c47;replace H:=And.intro c47 H;refine zR ?_;refine WpC.ret ?_;try simp only[aa,aj]
   refine zE ?_;have hb:gm i x=true:=by simp[gm,c47]
   have:=pO (R:=R) hil (by rw[hxd];exact hb)
   simp[this]
  have c47':=zN c47;have hxl:kx x=false:=c47;replace H:=And.intro c47 H;refine WpC.skip ?_;refine zr ?_;exact⟨hlt,(),by
   intro j hj;rcases Nat.lt_succ_iff_lt_or_eq.1 hj with h|h
   ·exact hiO j h
   ·subst h;rw[hxd,gm,hpts,Bool.false_or];exact hxl,Gh.cut' [12,1,10,11] 1 (by simp -implicitDefEqProofs[H,c47']) (by simp -implicitDefEqProofs[H,c47']) rfl (by simp) (by simp) (by simp)⟩
 refine WpC.exit ?_;have hkn:k=X.length:=by omega
 subst hkn;have hXs:=hi;refine WpC.seq ?_;refine zR ?_;refine WpC.block ?_;refine WpC.loopK [1,50,51] [52] (R.length) (():Unit) (λk _=>[(52,.d (.int .i64 k))]) (λk _=>[.cells 41 [.d (aL R),.d (aM X)]]) (λk _=>(R.take k).any (gb X.length)=false) (by simp -implicitDefEqProofs[H]<;>rfl) (Gh.cut' [52,1,50,51] 1 (by simp -implicitDefEqProofs[H]) (by simp -implicitDefEqProofs[H]) rfl (by simp) (by simp) (by simp)) (by simp) ?_
 rintro k ⟨⟩ hk hi;simp only[List.cons_append,List.nil_append];refine zR ?_;refine WpC.seq (zL (k<R.length) (λhlt=>?_) (λhge=>?_))
 ·refine WpC.skip ?_;have hkl:k<R.length:=hlt;have hst:=cf (gb X.length) hlt;obtain⟨r,hr⟩:∃r,R[k]=r:=⟨_,rfl⟩
  rw[hi,hr] at hst;have hw:IntKind.i64.wrap ((k:Int)+1)=k+1:=am (by omega) (by omega)
  replace H:=And.intro hlt (And.intro hkl (And.intro hr (And.intro hw H)));refine WpC.seq ?_;refine WpC.block ?_;refine zR ?_;refine WpC.seq ?_;refine WpC.val 78 (.d (.bool (gb X.length r))) ?_ ?_
  ·refine WpC.region ?_;refine zO 4 ?_;refine zS 59 (λg59=>?_) (λg59=>?_)
   ·have g59':=zN g59;replace H:=And.intro g59 H;refine zO 12 ?_;refine zO 7 ?_;refine WpO.nil ?_;refine⟨rfl,Gh.only 78 24 ?_ (by first|rfl|simp -implicitDefEqProofs[H]) (by rfl)⟩
    simp -implicitDefEqProofs[H,g59',gb]
   have g59':=zN g59;replace H:=And.intro g59 H;refine zO 8 ?_;refine zS 67 (λg67=>?_) (λg67=>?_)
   ·have g67':=zN g67;replace H:=And.intro g67 H;refine zO 11 ?_;refine WpO.nil ?_;refine⟨rfl,Gh.only 78 25 ?_ (by first|rfl|simp -implicitDefEqProofs[H]) (by rfl)⟩
    simp -implicitDefEqProofs[H,g59',g67',gb]
   have g67':=zN g67;replace H:=And.intro g67 H;refine zO 6 ?_;refine zS 73 (λg73=>?_) (λg73=>?_)
   ·have g73':=zN g73;replace H:=And.intro g73 H;refine zO 5 ?_;refine WpO.nil ?_;refine⟨rfl,Gh.only 78 26 ?_ (by first|rfl|simp -implicitDefEqProofs[H]) (by rfl)⟩
    simp -implicitDefEqProofs[H,g59',g67',g73',gb]
   have g73':=zN g73;replace H:=And.intro g73 H;refine zO 5 ?_;refine WpO.nil ?_;refine⟨rfl,Gh.only 78 26 ?_ (by first|rfl|simp -implicitDefEqProofs[H]) (by rfl)⟩
   simp -implicitDefEqProofs[H,g59',g67',g73',gb]
  refine zC (λc78=>?_) (λc78=>?_)
  ·have c78':=zN c78;replace H:=And.intro c78 H;refine zR ?_;refine WpC.ret ?_;try simp only[aa,aj]
   refine zE ?_;have:=vW (R:=R) (hr▸List.getElem_mem hkl) c78;simp[this]
  have c78':=zN c78;replace H:=And.intro c78 H;refine WpC.skip ?_;refine zr ?_;exact⟨hlt,(),by rw[hst];simpa using c78,Gh.cut' [52,1,50,51] 1 (by simp -implicitDefEqProofs[H,c78']) (by simp -implicitDefEqProofs[H,c78']) rfl (by simp) (by simp) (by simp)⟩
 refine WpC.exit ?_;have hkn:k=R.length:=by omega
 subst hkn;rw[List.take_of_length_le (Nat.le_refl _)] at hi;have hsy:=un hXs hi;refine zR ?_;refine WpC.ret ?_;try simp only[aa,aj]
 refine zE ?_;simp[hsy]
end Go.Proofs.YtlhmejigmokbhaaGreatDoor.Pay
